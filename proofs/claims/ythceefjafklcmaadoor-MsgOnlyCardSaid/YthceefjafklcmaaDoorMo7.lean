/-
  Contracts of the functions that the law reaches: msg.Sound. msg.Sound of any message. msg.tail: what a message says at its end. msg.Encode. msg.tail and msg.Encode of any message. The reader of msg: cut, number, text, all. Decode. Back.
-/
import Derived.Test.YthceefjafklcmaaDoorMo6
import Derived.Deep.MidRow
import Derived.Deep.RegionHeldLaw
namespace Go.Proofs.YthceefjafklcmaaDoor
open Go.RowKit
theorem minfo:(Tryd.prog.info? 36).map (·.size)=some 22:=by kernel_rfl
theorem BC.range {W:World} {b:Nat} {cs:List Value} (h:BC W b cs):W.rangeAt b 0 cs:=fun j v hv=>by rw [Nat.zero_add];exact h.at_ j v hv
theorem thereM {W:World} {b n:Nat} {cs:List Value} (h:BC W b cs) (hn:n≤cs.length:=by simp):W.there b 0 n:=fun j hj=>by
  rw [Nat.zero_add]
  exact ⟨by rw [h.at_ j (cs[j]'(by omega)) (List.getElem?_eq_getElem _)];rfl,h.fr j⟩
theorem bc_setCells {b:Nat} :∀(vs pre cs:List Value) (W:World),cs.length=vs.length→BC W b (pre++cs)→BC (W.setCells b pre.length vs) b (pre++vs)
  | [],pre,cs,_,h,hb=>by
    have:cs= [] :=List.length_eq_zero_iff.1 h
    subst this;exact hb
  | v ::vs,pre,cs,_,h,hb=>by
    cases cs with
    |nil=>cases h
    | cons x cs=>
      have h1:=hb.set (i:=pre.length) (x:=v) (by simp)
      have e:(pre++x::cs).set pre.length v=(pre++ [v])++cs:=by simp
      rw [e] at h1
      have h2:=bc_setCells vs (pre++ [v]) cs _ (by simpa using h) h1
      have e2:(pre++ [v]).length=pre.length+1:=by simp
      rw [e2] at h2
      simpa [World.setCells] using h2
theorem bc_far {b b':Nat} (hb:b≠b') {cs:List Value} :∀(vs:List Value) (o:Nat) (W:World),BC W b cs→BC (W.setCells b' o vs) b cs
  | [],_,_,h=>h
  |_::vs,o,_,h=>bc_far hb vs (o+1) _ (h.far hb)
theorem below_setCells {B b:Nat} (hb:B≤b):∀(vs:List Value) (o:Nat) (w W:World),Below B w W→Below B w (W.setCells b o vs)
  | [],_,_,_,h=>h
  |v::vs,o,w,_,h=>below_setCells hb vs (o+1) w _ (h.setCell (by exact hb) v)
theorem bc_drewM {W:World} {b:Nat} {cs:List Value} (h:BC W b cs):BC W.drew b cs:=⟨fun j x hj=>h.at_ j x hj,h.fr,h.lt⟩
theorem genM (w:World) (cs:Array Value) (t t':TypeId) (zs:Array Value) (xs:List Value) {n:Nat} (hn:n=w.heap.size+1) (hz:zs.size=xs.length) {M:World→Prop} (h:∀W2,BC W2 w.heap.size cs.toList→BC W2 (w.heap.size+1) xs→Below w.heap.size w W2→M W2):
    M (((w.alloc (.cells cs t)).alloc (.cells zs t')).setCells n 0 xs.toArray.toList):=by
  subst hn
  have h1:=BC.start (w.alloc (.cells cs t)) zs t'
  rw [show (w.alloc (.cells cs t)).heap.size=w.heap.size+1 by simp] at h1
  have hb:Below w.heap.size w ((w.alloc (.cells cs t)).alloc (.cells zs t')):=((Below.refl _ _).alloc (Nat.le_refl _) _).alloc (by simp) _
  refine h _ (bc_far (by omega) _ _ _ ((BC.start w cs t).keep ((Below.refl _ _).alloc (Nat.le_refl _) _) (by simp))) ?_ (below_setCells (by omega) _ _ _ _ hb)
  exact bc_setCells xs [] zs.toList _ (by simpa using hz) h1
theorem wp_loadM {ops:Array Oper} {rest:List Oper} {op:Oper} {a:Act} {Q:Exit→Act→World→Prop} {W:World} (hgd:op.guard=none) (x:Operand) (ho:op.op= .load 36 x)
    (h:∃(b:Nat) (cs:List Value),a.eval x= .pointer (some ⟨b,0,none⟩)∧cs.length=22∧BC W b cs∧wpList Tryd.prog ops Q rest (a.put op.dst (.agg cs.toArray)) W):wpList Tryd.prog ops Q (op::rest) a W:=by
  obtain ⟨b,cs,h1,h2,h3,h4⟩:=h
  exact wpList_load_mid hgd _ x ho b 0 h1 cs _ h3.range Tryd.underlying36 rfl (by rw [minfo,h2]) h4
theorem wp_makeM {ops:Array Oper} {rest:List Oper} {op:Oper} {a:Act} {Q:Exit→Act→World→Prop} {W:World} (hgd:op.guard=none) (x y:Operand) (ho:op.op= .store 36 x y)
    (h:∃(w:World) (cs:Array Value) (t t':TypeId) (zs:Array Value) (xs:List Value),W=((w.alloc (.cells cs t)).alloc (.cells zs t'))∧a.eval x= .pointer (some ⟨w.heap.size+1,0,none⟩)∧a.eval y= .agg xs.toArray∧zs.size=xs.length∧xs.length=22∧xs.all (·.oneCell')=true∧
      ∀W2,BC W2 w.heap.size cs.toList→BC W2 (w.heap.size+1) xs→Below w.heap.size w W2→wpList Tryd.prog ops Q rest (a.put op.dst undef) W2):wpList Tryd.prog ops Q (op::rest) a W:=by
  obtain ⟨w,cs,t,t',zs,xs,rfl,hx,hy,hz,hl,h1,h⟩:=h
  have hb:=BC.start (w.alloc (.cells cs t)) zs t'
  rw [show (w.alloc (.cells cs t)).heap.size=w.heap.size+1 by simp] at hb
  refine wpList_store_mid hgd _ x y ho _ 0 _ hx hy (thereM hb (by simp [hz])) (by rw [minfo];simp [hl]) (all_oneCell_toArray (List.all_eq_true.1 h1)) ?_
  exact genM w cs t t' zs xs rfl hz h
noncomputable def sndM (doc:ByteArray) (n lo hi:Int) (sm br nn sd th vn er fs:Bool):Bool:=
  !(doc.toList== []) && (decide (doc.size≤20) && (decide (lo≤n) && (decide (n≤hi) && (sm && ((if br then !nn && sd else nn) && ((th||vn) && (!er && fs)))))))
structure MsH (w:World) (c:MC) (nn sd vn fs:Bool):Prop where
  HN:Hid (Behind w 28 #[.agg #[.int .u8 c.e.k, .int .u32 c.e.src, .int .u32 c.e.seq, .int .u8 c.e.v.k, .int .i64 c.e.v.n, .string c.e.v.s, .slice c.e.v.la c.e.v.ll c.e.v.lc, .slice c.e.v.oa c.e.v.ol c.e.v.oc, .slice c.e.oa c.e.ol c.e.oc]] (.bool nn))
  HS:Hid (Behind w 29 #[.agg #[.int .u8 c.e.k, .int .u32 c.e.src, .int .u32 c.e.seq, .int .u8 c.e.v.k, .int .i64 c.e.v.n, .string c.e.v.s, .slice c.e.v.la c.e.v.ll c.e.v.lc, .slice c.e.v.oa c.e.v.ol c.e.v.oc, .slice c.e.oa c.e.ol c.e.oc]] (.bool sd))
  HV:Hid (Behind w 30 #[.agg #[.int .u8 c.v.k, .int .i64 c.v.n, .string c.v.s, .slice c.v.la c.v.ll c.v.lc, .slice c.v.oa c.v.ol c.v.oc], .agg #[.int .u8 0, .int .i64 0, .string { data:= #[] }, .slice none 0 0, .slice none 0 0]] (.bool vn))
  HF:Hid (Behind w 31 #[.slice c.fa c.fl c.fc] (.bool fs))
theorem brings_at (k:Int) {b:Bool} (h:bringsB k=b) (w:World):Calls Tryd.prog 27 #[.int .u8 k] w fun e w'=>e= .returned (.bool b)∧Below w.heap.size w w':=
  (brings_any k w).mono fun e w' ⟨h1,h2⟩=>⟨by rw [h1,h],by rw [h2];exact Below.refl _ _⟩
theorem bcO (a b:Bool) {P:Prop} (h:P):(a=false∧b=false)∨(a=true∨a=false∧b=true)∧P:=by
  cases a
  · cases b
    · exact .inl ⟨rfl,rfl⟩
    · exact .inr ⟨.inr ⟨rfl,rfl⟩,h⟩
  · exact .inr ⟨.inl rfl,h⟩
set_option maxHeartbeats 8000000 in
set_option maxRecDepth 100000 in
theorem msgSound_1 (w:World) (c:MC) (ek:c.k=1) {nn sd vn fs sm:Bool} (H:MsH w c nn sd vn fs) (HSM:Hid (Behind w 26 #[.agg (mcells c).toArray, .agg ([.int .u8 1, .string c.doc, .int .i64 c.n, .int .u8 0, .int .u32 0, .int .u32 0, .int .u8 0, .int .i64 0, .string { data:= #[] }, .slice none 0 0, .slice none 0 0, .slice none 0 0, .int .u32 0, .int .u32 0, .int .u16 0, .bool false, .int .u8 0, .int .i64 0, .string { data:= #[] }, .slice none 0 0, .slice none 0 0, .slice c.fa c.fl c.fc] :List Value).toArray] (.bool sm))):
    Calls Tryd.prog 16 #[.agg (mcells c).toArray] w fun e w'=>e= .returned (.bool (sndM c.doc c.n (-1) 5000 sm false nn sd c.there vn false fs))∧Below w.heap.size w w':=by
  obtain ⟨HN,HS,HV,HF⟩:=H
  obtain ⟨R,hR⟩:∃R,sndM c.doc c.n (-1) 5000 sm false nn sd c.there vn false fs=R:=⟨_,rfl⟩
  rw [hR]
  rw [sndM] at hR
  obtain ⟨bd,hbd⟩:∃b,(c.doc.toList== [])=b:=⟨_,rfl⟩
  rw [hbd] at hR
  have HR:=Lib.hid hR
  clear hR
  have z0:=(BC.start w (mcells c).toArray 36).at_ 0 _ rfl
  have z1:=(BC.start w (mcells c).toArray 36).at_ 1 _ rfl
  rw [ek] at z0
  rcases bcF bd (bcT sm trivial) with rfl|⟨rfl,(rfl|⟨rfl,_⟩)⟩
  all_goals
    go_enter Tryd.func16,Tryd.ntmps16
    go_wp2_with (first|(refine wp_makeM rfl _ _ rfl ?_;refine ⟨w,_,_,_,_, [.int .u8 1, .string c.doc, .int .i64 0, .int .u8 0, .int .u32 0, .int .u32 0, .int .u8 0, .int .i64 0, .string { data:= #[] }, .slice none 0 0, .slice none 0 0, .slice none 0 0, .int .u32 0, .int .u32 0, .int .u16 0, .bool false, .int .u8 0, .int .i64 0, .string { data:= #[] }, .slice none 0 0, .slice none 0 0, .slice none 0 0],rfl,rfl,rfl,rfl,rfl,rfl, ?_⟩;intro W2 bx bxx hB;clear z0 z1;have y0:=bx.at_ 0 _ rfl;have y1:=bx.at_ 1 _ rfl;have y2:=bx.at_ 2 _ rfl;have y21:=bx.at_ 21 _ rfl;rw [ek] at y0;have x21:=bxx.at_ 21 _ rfl;have x2:=bxx.at_ 2 _ rfl;have g21:=bxx.fr 21;have g2:=bxx.fr 2)|(refine wp_loadM rfl _ rfl ?_;first|(refine ⟨w.heap.size,mcells c,rfl,rfl,((bx.far (by omega)).far (by omega)), ?_⟩)|(refine ⟨w.heap.size+1, [.int .u8 1, .string c.doc, .int .i64 c.n, .int .u8 0, .int .u32 0, .int .u32 0, .int .u8 0, .int .i64 0, .string { data:= #[] }, .slice none 0 0, .slice none 0 0, .slice none 0 0, .int .u32 0, .int .u32 0, .int .u16 0, .bool false, .int .u8 0, .int .i64 0, .string { data:= #[] }, .slice none 0 0, .slice none 0 0, .slice c.fa c.fl c.fc],rfl,rfl,((bxx.set (i:=21) (x:= .slice c.fa c.fl c.fc) (by simp)).set (i:=2) (x:= .int .i64 c.n) (by simp)), ?_⟩))|(go_at_call 11;refine (numbered_any 1 _).mono ?_;rintro e w0 ⟨rfl,rfl⟩)|(go_at_call 26;(with_reducible refine (Behind.at_ HSM.out ((hB.setCell (by simp) _).setCell (by simp) _)).mono ?_);rintro e w1 ⟨rfl,hb1⟩))
  all_goals first
    |(go_ret;exact ⟨ret_bool (by rw [←HR.out];first|(simp;done)|(simp;omega)|(simp;intros;omega)),by first|exact ((hB.setCell (by simp) _).setCell (by simp) _)|exact Below.on ((hB.setCell (by simp) _).setCell (by simp) _) hb1 (Below.size ((hB.setCell (by simp) _).setCell (by simp) _))⟩)
    |skip
  have HT:Hid (R=((if false then !nn && sd else nn) && ((c.there||vn) && (!false && fs)))):=by
    show _=_
    rw [←HR.out,show decide (c.doc.size≤20)=true by simp;omega,show decide ((-1)≤c.n)=true by simp;omega,show decide (c.n≤5000)=true by simp;omega];rfl
  replace hB:=Below.on ((hB.setCell (by simp) _).setCell (by simp) _) hb1 (Below.size ((hB.setCell (by simp) _).setCell (by simp) _))
  replace bx:=BC.keep ((bx.far (by omega)).far (by omega)) hb1 (BC.lt ((bx.far (by omega)).far (by omega)))
  clear HR hb1 hbd HSM bxx
  obtain ⟨th,hth⟩:∃b,c.there=b:=⟨_,rfl⟩
  rw [hth] at HT
  have HE:Hid (c.k=1):=ek
  have q0:=bx.at_ 0 _ rfl;have q3:=bx.at_ 3 _ rfl;have q4:=bx.at_ 4 _ rfl;have q5:=bx.at_ 5 _ rfl;have q6:=bx.at_ 6 _ rfl;have q7:=bx.at_ 7 _ rfl;have q8:=bx.at_ 8 _ rfl;have q9:=bx.at_ 9 _ rfl;have q10:=bx.at_ 10 _ rfl;have q11:=bx.at_ 11 _ rfl;rw [ek] at q0
  have r0:=later_cell q0;have r3:=later_cell q3;have r4:=later_cell q4;have r5:=later_cell q5;have r6:=later_cell q6;have r7:=later_cell q7;have r8:=later_cell q8;have r9:=later_cell q9;have r10:=later_cell q10;have r11:=later_cell q11
  rcases bcT nn (bcO th vn trivial) with rfl|⟨rfl,(⟨rfl,rfl⟩|⟨(rfl|⟨rfl,rfl⟩),_⟩)⟩
  all_goals
    refine wp_region_later (by kernel_rfl) (by kernel_rfl) ?_
    repeat (go_big_quiet_step (first|(go_at_call 27;exact later_call (brings_at 1 rfl _))|(go_at_call 28;exact later_call (HN.out _ (hB.on (below_later _ _) hB.size)))))
    refine wpQuiet_nil ?_
    intro _ hw'
    obtain ⟨pq,hw''⟩:=hw'
    subst hw''
    replace bx:=bx.keep (below_later w1 pq) bx.lt
    replace hB:=hB.on (below_later w1 pq) hB.size
    clear q0 q3 q4 q5 q6 q7 q8 q9 q10 q11 r0 r3 r4 r5 r6 r7 r8 r9 r10 r11
    have y0:=bx.at_ 0 _ rfl;have y3:=bx.at_ 3 _ rfl;have y4:=bx.at_ 4 _ rfl;have y5:=bx.at_ 5 _ rfl;have y6:=bx.at_ 6 _ rfl;have y7:=bx.at_ 7 _ rfl;have y8:=bx.at_ 8 _ rfl;have y9:=bx.at_ 9 _ rfl;have y10:=bx.at_ 10 _ rfl;have y11:=bx.at_ 11 _ rfl;have y14:=bx.at_ 14 _ rfl;have y15:=bx.at_ 15 _ rfl;have y16:=bx.at_ 16 _ rfl;have y17:=bx.at_ 17 _ rfl;have y18:=bx.at_ 18 _ rfl;have y19:=bx.at_ 19 _ rfl;have y20:=bx.at_ 20 _ rfl;have y21:=bx.at_ 21 _ rfl;rw [ek] at y0
    rw [hth] at y15
    go_wp2_with (first|(go_at_call 27;(with_reducible refine (brings_at 1 rfl _).mono ?_);rintro e w2 ⟨rfl,hb2⟩;replace bx:=bx.keep hb2 bx.lt;replace hB:=hB.on hb2 hB.size;have y0:=bx.at_ 0 _ rfl;have y3:=bx.at_ 3 _ rfl;have y4:=bx.at_ 4 _ rfl;have y5:=bx.at_ 5 _ rfl;have y6:=bx.at_ 6 _ rfl;have y7:=bx.at_ 7 _ rfl;have y8:=bx.at_ 8 _ rfl;have y9:=bx.at_ 9 _ rfl;have y10:=bx.at_ 10 _ rfl;have y11:=bx.at_ 11 _ rfl;have y14:=bx.at_ 14 _ rfl;have y15:=bx.at_ 15 _ rfl;have y16:=bx.at_ 16 _ rfl;have y17:=bx.at_ 17 _ rfl;have y18:=bx.at_ 18 _ rfl;have y19:=bx.at_ 19 _ rfl;have y20:=bx.at_ 20 _ rfl;have y21:=bx.at_ 21 _ rfl;rw [ek] at y0;rw [hth] at y15)|(go_at_call 29;(with_reducible refine (Behind.at_ HS.out hB).mono ?_);rintro e w3 ⟨rfl,hb3⟩;replace bx:=bx.keep hb3 bx.lt;replace hB:=hB.on hb3 hB.size;have y0:=bx.at_ 0 _ rfl;have y3:=bx.at_ 3 _ rfl;have y4:=bx.at_ 4 _ rfl;have y5:=bx.at_ 5 _ rfl;have y6:=bx.at_ 6 _ rfl;have y7:=bx.at_ 7 _ rfl;have y8:=bx.at_ 8 _ rfl;have y9:=bx.at_ 9 _ rfl;have y10:=bx.at_ 10 _ rfl;have y11:=bx.at_ 11 _ rfl;have y14:=bx.at_ 14 _ rfl;have y15:=bx.at_ 15 _ rfl;have y16:=bx.at_ 16 _ rfl;have y17:=bx.at_ 17 _ rfl;have y18:=bx.at_ 18 _ rfl;have y19:=bx.at_ 19 _ rfl;have y20:=bx.at_ 20 _ rfl;have y21:=bx.at_ 21 _ rfl;rw [ek] at y0;rw [hth] at y15)|(go_at_call 30;(with_reducible refine (Behind.at_ HV.out hB).mono ?_);rintro e w4 ⟨rfl,hb4⟩;replace bx:=bx.keep hb4 bx.lt;replace hB:=hB.on hb4 hB.size;have y0:=bx.at_ 0 _ rfl;have y3:=bx.at_ 3 _ rfl;have y4:=bx.at_ 4 _ rfl;have y5:=bx.at_ 5 _ rfl;have y6:=bx.at_ 6 _ rfl;have y7:=bx.at_ 7 _ rfl;have y8:=bx.at_ 8 _ rfl;have y9:=bx.at_ 9 _ rfl;have y10:=bx.at_ 10 _ rfl;have y11:=bx.at_ 11 _ rfl;have y14:=bx.at_ 14 _ rfl;have y15:=bx.at_ 15 _ rfl;have y16:=bx.at_ 16 _ rfl;have y17:=bx.at_ 17 _ rfl;have y18:=bx.at_ 18 _ rfl;have y19:=bx.at_ 19 _ rfl;have y20:=bx.at_ 20 _ rfl;have y21:=bx.at_ 21 _ rfl;rw [ek] at y0;rw [hth] at y15)|(go_at_call 31;(with_reducible refine (Behind.at_ HF.out hB).mono ?_);rintro e w5 ⟨rfl,hb5⟩;replace hB:=hB.on hb5 hB.size))
    go_ret
    exact ⟨ret_bool (by rw [HT.out];simp),hB⟩
set_option maxHeartbeats 8000000 in
set_option maxRecDepth 100000 in
theorem msgSound_2 (w:World) (c:MC) (ek:c.k=2) {nn sd vn fs sm:Bool} (H:MsH w c nn sd vn fs) (HSM:Hid (Behind w 26 #[.agg (mcells c).toArray, .agg ([.int .u8 2, .string c.doc, .int .i64 0, .int .u8 0, .int .u32 0, .int .u32 0, .int .u8 0, .int .i64 0, .string { data:= #[] }, .slice none 0 0, .slice none 0 0, .slice none 0 0, .int .u32 0, .int .u32 0, .int .u16 0, .bool false, .int .u8 0, .int .i64 0, .string { data:= #[] }, .slice none 0 0, .slice none 0 0, .slice none 0 0] :List Value).toArray] (.bool sm))):
    Calls Tryd.prog 16 #[.agg (mcells c).toArray] w fun e w'=>e= .returned (.bool (sndM c.doc c.n 0 5000 sm false nn sd c.there vn false fs))∧Below w.heap.size w w':=by
  obtain ⟨HN,HS,HV,HF⟩:=H
  obtain ⟨R,hR⟩:∃R,sndM c.doc c.n 0 5000 sm false nn sd c.there vn false fs=R:=⟨_,rfl⟩
  rw [hR]
  rw [sndM] at hR
  obtain ⟨bd,hbd⟩:∃b,(c.doc.toList== [])=b:=⟨_,rfl⟩
  rw [hbd] at hR
  have HR:=Lib.hid hR
  clear hR
  have z0:=(BC.start w (mcells c).toArray 36).at_ 0 _ rfl
  have z1:=(BC.start w (mcells c).toArray 36).at_ 1 _ rfl
  rw [ek] at z0
  rcases bcF bd (bcT sm trivial) with rfl|⟨rfl,(rfl|⟨rfl,_⟩)⟩
  all_goals
    go_enter Tryd.func16,Tryd.ntmps16
    go_wp2_with (first|(refine wp_makeM rfl _ _ rfl ?_;refine ⟨w,_,_,_,_, [.int .u8 2, .string c.doc, .int .i64 0, .int .u8 0, .int .u32 0, .int .u32 0, .int .u8 0, .int .i64 0, .string { data:= #[] }, .slice none 0 0, .slice none 0 0, .slice none 0 0, .int .u32 0, .int .u32 0, .int .u16 0, .bool false, .int .u8 0, .int .i64 0, .string { data:= #[] }, .slice none 0 0, .slice none 0 0, .slice none 0 0],rfl,rfl,rfl,rfl,rfl,rfl, ?_⟩;intro W2 bx bxx hB;clear z0 z1;have y0:=bx.at_ 0 _ rfl;have y1:=bx.at_ 1 _ rfl;have y2:=bx.at_ 2 _ rfl;rw [ek] at y0)|(refine wp_loadM rfl _ rfl ?_;first|(refine ⟨w.heap.size,mcells c,rfl,rfl,bx, ?_⟩)|(refine ⟨w.heap.size+1, [.int .u8 2, .string c.doc, .int .i64 0, .int .u8 0, .int .u32 0, .int .u32 0, .int .u8 0, .int .i64 0, .string { data:= #[] }, .slice none 0 0, .slice none 0 0, .slice none 0 0, .int .u32 0, .int .u32 0, .int .u16 0, .bool false, .int .u8 0, .int .i64 0, .string { data:= #[] }, .slice none 0 0, .slice none 0 0, .slice none 0 0],rfl,rfl,bxx, ?_⟩))|(go_at_call 11;refine (numbered_any 2 _).mono ?_;rintro e w0 ⟨rfl,rfl⟩)|(go_at_call 26;(with_reducible refine (Behind.at_ HSM.out hB).mono ?_);rintro e w1 ⟨rfl,hb1⟩))
  all_goals first
    |(go_ret;exact ⟨ret_bool (by rw [←HR.out];first|(simp;done)|(simp;omega)|(simp;intros;omega)),by first|exact hB|exact Below.on hB hb1 (Below.size hB)⟩)
    |skip
  have HT:Hid (R=((if false then !nn && sd else nn) && ((c.there||vn) && (!false && fs)))):=by
    show _=_
    rw [←HR.out,show decide (c.doc.size≤20)=true by simp;omega,show decide (0≤c.n)=true by simp;omega,show decide (c.n≤5000)=true by simp;omega];rfl
  replace hB:=Below.on hB hb1 (Below.size hB)
  replace bx:=BC.keep bx hb1 (BC.lt bx)
  clear HR hb1 hbd HSM bxx
  obtain ⟨th,hth⟩:∃b,c.there=b:=⟨_,rfl⟩
  rw [hth] at HT
  have HE:Hid (c.k=2):=ek
  have q0:=bx.at_ 0 _ rfl;have q3:=bx.at_ 3 _ rfl;have q4:=bx.at_ 4 _ rfl;have q5:=bx.at_ 5 _ rfl;have q6:=bx.at_ 6 _ rfl;have q7:=bx.at_ 7 _ rfl;have q8:=bx.at_ 8 _ rfl;have q9:=bx.at_ 9 _ rfl;have q10:=bx.at_ 10 _ rfl;have q11:=bx.at_ 11 _ rfl;rw [ek] at q0
  have r0:=later_cell q0;have r3:=later_cell q3;have r4:=later_cell q4;have r5:=later_cell q5;have r6:=later_cell q6;have r7:=later_cell q7;have r8:=later_cell q8;have r9:=later_cell q9;have r10:=later_cell q10;have r11:=later_cell q11
  rcases bcT nn (bcO th vn trivial) with rfl|⟨rfl,(⟨rfl,rfl⟩|⟨(rfl|⟨rfl,rfl⟩),_⟩)⟩
  all_goals
    refine wp_region_later (by kernel_rfl) (by kernel_rfl) ?_
    repeat (go_big_quiet_step (first|(go_at_call 27;exact later_call (brings_at 2 rfl _))|(go_at_call 28;exact later_call (HN.out _ (hB.on (below_later _ _) hB.size)))))
    refine wpQuiet_nil ?_
    intro _ hw'
    obtain ⟨pq,hw''⟩:=hw'
    subst hw''
    replace bx:=bx.keep (below_later w1 pq) bx.lt
    replace hB:=hB.on (below_later w1 pq) hB.size
    clear q0 q3 q4 q5 q6 q7 q8 q9 q10 q11 r0 r3 r4 r5 r6 r7 r8 r9 r10 r11
    have y0:=bx.at_ 0 _ rfl;have y3:=bx.at_ 3 _ rfl;have y4:=bx.at_ 4 _ rfl;have y5:=bx.at_ 5 _ rfl;have y6:=bx.at_ 6 _ rfl;have y7:=bx.at_ 7 _ rfl;have y8:=bx.at_ 8 _ rfl;have y9:=bx.at_ 9 _ rfl;have y10:=bx.at_ 10 _ rfl;have y11:=bx.at_ 11 _ rfl;have y14:=bx.at_ 14 _ rfl;have y15:=bx.at_ 15 _ rfl;have y16:=bx.at_ 16 _ rfl;have y17:=bx.at_ 17 _ rfl;have y18:=bx.at_ 18 _ rfl;have y19:=bx.at_ 19 _ rfl;have y20:=bx.at_ 20 _ rfl;have y21:=bx.at_ 21 _ rfl;rw [ek] at y0
    rw [hth] at y15
    go_wp2_with (first|(go_at_call 27;(with_reducible refine (brings_at 2 rfl _).mono ?_);rintro e w2 ⟨rfl,hb2⟩;replace bx:=bx.keep hb2 bx.lt;replace hB:=hB.on hb2 hB.size;have y0:=bx.at_ 0 _ rfl;have y3:=bx.at_ 3 _ rfl;have y4:=bx.at_ 4 _ rfl;have y5:=bx.at_ 5 _ rfl;have y6:=bx.at_ 6 _ rfl;have y7:=bx.at_ 7 _ rfl;have y8:=bx.at_ 8 _ rfl;have y9:=bx.at_ 9 _ rfl;have y10:=bx.at_ 10 _ rfl;have y11:=bx.at_ 11 _ rfl;have y14:=bx.at_ 14 _ rfl;have y15:=bx.at_ 15 _ rfl;have y16:=bx.at_ 16 _ rfl;have y17:=bx.at_ 17 _ rfl;have y18:=bx.at_ 18 _ rfl;have y19:=bx.at_ 19 _ rfl;have y20:=bx.at_ 20 _ rfl;have y21:=bx.at_ 21 _ rfl;rw [ek] at y0;rw [hth] at y15)|(go_at_call 29;(with_reducible refine (Behind.at_ HS.out hB).mono ?_);rintro e w3 ⟨rfl,hb3⟩;replace bx:=bx.keep hb3 bx.lt;replace hB:=hB.on hb3 hB.size;have y0:=bx.at_ 0 _ rfl;have y3:=bx.at_ 3 _ rfl;have y4:=bx.at_ 4 _ rfl;have y5:=bx.at_ 5 _ rfl;have y6:=bx.at_ 6 _ rfl;have y7:=bx.at_ 7 _ rfl;have y8:=bx.at_ 8 _ rfl;have y9:=bx.at_ 9 _ rfl;have y10:=bx.at_ 10 _ rfl;have y11:=bx.at_ 11 _ rfl;have y14:=bx.at_ 14 _ rfl;have y15:=bx.at_ 15 _ rfl;have y16:=bx.at_ 16 _ rfl;have y17:=bx.at_ 17 _ rfl;have y18:=bx.at_ 18 _ rfl;have y19:=bx.at_ 19 _ rfl;have y20:=bx.at_ 20 _ rfl;have y21:=bx.at_ 21 _ rfl;rw [ek] at y0;rw [hth] at y15)|(go_at_call 30;(with_reducible refine (Behind.at_ HV.out hB).mono ?_);rintro e w4 ⟨rfl,hb4⟩;replace bx:=bx.keep hb4 bx.lt;replace hB:=hB.on hb4 hB.size;have y0:=bx.at_ 0 _ rfl;have y3:=bx.at_ 3 _ rfl;have y4:=bx.at_ 4 _ rfl;have y5:=bx.at_ 5 _ rfl;have y6:=bx.at_ 6 _ rfl;have y7:=bx.at_ 7 _ rfl;have y8:=bx.at_ 8 _ rfl;have y9:=bx.at_ 9 _ rfl;have y10:=bx.at_ 10 _ rfl;have y11:=bx.at_ 11 _ rfl;have y14:=bx.at_ 14 _ rfl;have y15:=bx.at_ 15 _ rfl;have y16:=bx.at_ 16 _ rfl;have y17:=bx.at_ 17 _ rfl;have y18:=bx.at_ 18 _ rfl;have y19:=bx.at_ 19 _ rfl;have y20:=bx.at_ 20 _ rfl;have y21:=bx.at_ 21 _ rfl;rw [ek] at y0;rw [hth] at y15)|(go_at_call 31;(with_reducible refine (Behind.at_ HF.out hB).mono ?_);rintro e w5 ⟨rfl,hb5⟩;replace hB:=hB.on hb5 hB.size))
    go_ret
    exact ⟨ret_bool (by rw [HT.out];simp),hB⟩
set_option maxHeartbeats 8000000 in
set_option maxRecDepth 100000 in
theorem msgSound_3 (w:World) (c:MC) (ek:c.k=3) {nn sd vn fs sm:Bool} (H:MsH w c nn sd vn fs) (HSM:Hid (Behind w 26 #[.agg (mcells c).toArray, .agg ([.int .u8 3, .string c.doc, .int .i64 c.n, .int .u8 0, .int .u32 0, .int .u32 0, .int .u8 0, .int .i64 0, .string { data:= #[] }, .slice none 0 0, .slice none 0 0, .slice none 0 0, .int .u32 0, .int .u32 0, .int .u16 0, .bool false, .int .u8 0, .int .i64 0, .string { data:= #[] }, .slice none 0 0, .slice none 0 0, .slice none 0 0] :List Value).toArray] (.bool sm))):
    Calls Tryd.prog 16 #[.agg (mcells c).toArray] w fun e w'=>e= .returned (.bool (sndM c.doc c.n 0 5000 sm true nn sd c.there vn false fs))∧Below w.heap.size w w':=by
  obtain ⟨HN,HS,HV,HF⟩:=H
  obtain ⟨R,hR⟩:∃R,sndM c.doc c.n 0 5000 sm true nn sd c.there vn false fs=R:=⟨_,rfl⟩
  rw [hR]
  rw [sndM] at hR
  obtain ⟨bd,hbd⟩:∃b,(c.doc.toList== [])=b:=⟨_,rfl⟩
  rw [hbd] at hR
  have HR:=Lib.hid hR
  clear hR
  have z0:=(BC.start w (mcells c).toArray 36).at_ 0 _ rfl
  have z1:=(BC.start w (mcells c).toArray 36).at_ 1 _ rfl
  rw [ek] at z0
  rcases bcF bd (bcT sm trivial) with rfl|⟨rfl,(rfl|⟨rfl,_⟩)⟩
  all_goals
    go_enter Tryd.func16,Tryd.ntmps16
    go_wp2_with (first|(refine wp_makeM rfl _ _ rfl ?_;refine ⟨w,_,_,_,_, [.int .u8 3, .string c.doc, .int .i64 0, .int .u8 0, .int .u32 0, .int .u32 0, .int .u8 0, .int .i64 0, .string { data:= #[] }, .slice none 0 0, .slice none 0 0, .slice none 0 0, .int .u32 0, .int .u32 0, .int .u16 0, .bool false, .int .u8 0, .int .i64 0, .string { data:= #[] }, .slice none 0 0, .slice none 0 0, .slice none 0 0],rfl,rfl,rfl,rfl,rfl,rfl, ?_⟩;intro W2 bx bxx hB;clear z0 z1;have y0:=bx.at_ 0 _ rfl;have y1:=bx.at_ 1 _ rfl;have y2:=bx.at_ 2 _ rfl;rw [ek] at y0;have x2:=bxx.at_ 2 _ rfl;have g2:=bxx.fr 2)|(refine wp_loadM rfl _ rfl ?_;first|(refine ⟨w.heap.size,mcells c,rfl,rfl,(bx.far (by omega)), ?_⟩)|(refine ⟨w.heap.size+1, [.int .u8 3, .string c.doc, .int .i64 c.n, .int .u8 0, .int .u32 0, .int .u32 0, .int .u8 0, .int .i64 0, .string { data:= #[] }, .slice none 0 0, .slice none 0 0, .slice none 0 0, .int .u32 0, .int .u32 0, .int .u16 0, .bool false, .int .u8 0, .int .i64 0, .string { data:= #[] }, .slice none 0 0, .slice none 0 0, .slice none 0 0],rfl,rfl,(bxx.set (i:=2) (x:= .int .i64 c.n) (by simp)), ?_⟩))|(go_at_call 11;refine (numbered_any 3 _).mono ?_;rintro e w0 ⟨rfl,rfl⟩)|(go_at_call 26;(with_reducible refine (Behind.at_ HSM.out (hB.setCell (by simp) _)).mono ?_);rintro e w1 ⟨rfl,hb1⟩))
  all_goals first
    |(go_ret;exact ⟨ret_bool (by rw [←HR.out];first|(simp;done)|(simp;omega)|(simp;intros;omega)),by first|exact (hB.setCell (by simp) _)|exact Below.on (hB.setCell (by simp) _) hb1 (Below.size (hB.setCell (by simp) _))⟩)
    |skip
  have HT:Hid (R=((if true then !nn && sd else nn) && ((c.there||vn) && (!false && fs)))):=by
    show _=_
    rw [←HR.out,show decide (c.doc.size≤20)=true by simp;omega,show decide (0≤c.n)=true by simp;omega,show decide (c.n≤5000)=true by simp;omega];rfl
  replace hB:=Below.on (hB.setCell (by simp) _) hb1 (Below.size (hB.setCell (by simp) _))
  replace bx:=BC.keep (bx.far (by omega)) hb1 (BC.lt (bx.far (by omega)))
  clear HR hb1 hbd HSM bxx
  obtain ⟨th,hth⟩:∃b,c.there=b:=⟨_,rfl⟩
  rw [hth] at HT
  have HE:Hid (c.k=3):=ek
  have q0:=bx.at_ 0 _ rfl;have q3:=bx.at_ 3 _ rfl;have q4:=bx.at_ 4 _ rfl;have q5:=bx.at_ 5 _ rfl;have q6:=bx.at_ 6 _ rfl;have q7:=bx.at_ 7 _ rfl;have q8:=bx.at_ 8 _ rfl;have q9:=bx.at_ 9 _ rfl;have q10:=bx.at_ 10 _ rfl;have q11:=bx.at_ 11 _ rfl;rw [ek] at q0
  have r0:=later_cell q0;have r3:=later_cell q3;have r4:=later_cell q4;have r5:=later_cell q5;have r6:=later_cell q6;have r7:=later_cell q7;have r8:=later_cell q8;have r9:=later_cell q9;have r10:=later_cell q10;have r11:=later_cell q11
  rcases bcF nn (bcT sd (bcO th vn trivial)) with rfl|⟨rfl,(rfl|⟨rfl,(⟨rfl,rfl⟩|⟨(rfl|⟨rfl,rfl⟩),_⟩)⟩)⟩
  all_goals
    refine wp_region_later (by kernel_rfl) (by kernel_rfl) ?_
    repeat (go_big_quiet_step (first|(go_at_call 27;exact later_call (brings_at 3 rfl _))|(go_at_call 28;exact later_call (HN.out _ (hB.on (below_later _ _) hB.size)))))
    refine wpQuiet_nil ?_
    intro _ hw'
    obtain ⟨pq,hw''⟩:=hw'
    subst hw''
    replace bx:=bx.keep (below_later w1 pq) bx.lt
    replace hB:=hB.on (below_later w1 pq) hB.size
    clear q0 q3 q4 q5 q6 q7 q8 q9 q10 q11 r0 r3 r4 r5 r6 r7 r8 r9 r10 r11
    have y0:=bx.at_ 0 _ rfl;have y3:=bx.at_ 3 _ rfl;have y4:=bx.at_ 4 _ rfl;have y5:=bx.at_ 5 _ rfl;have y6:=bx.at_ 6 _ rfl;have y7:=bx.at_ 7 _ rfl;have y8:=bx.at_ 8 _ rfl;have y9:=bx.at_ 9 _ rfl;have y10:=bx.at_ 10 _ rfl;have y11:=bx.at_ 11 _ rfl;have y14:=bx.at_ 14 _ rfl;have y15:=bx.at_ 15 _ rfl;have y16:=bx.at_ 16 _ rfl;have y17:=bx.at_ 17 _ rfl;have y18:=bx.at_ 18 _ rfl;have y19:=bx.at_ 19 _ rfl;have y20:=bx.at_ 20 _ rfl;have y21:=bx.at_ 21 _ rfl;rw [ek] at y0
    rw [hth] at y15
    go_wp2_with (first|(go_at_call 27;(with_reducible refine (brings_at 3 rfl _).mono ?_);rintro e w2 ⟨rfl,hb2⟩;replace bx:=bx.keep hb2 bx.lt;replace hB:=hB.on hb2 hB.size;have y0:=bx.at_ 0 _ rfl;have y3:=bx.at_ 3 _ rfl;have y4:=bx.at_ 4 _ rfl;have y5:=bx.at_ 5 _ rfl;have y6:=bx.at_ 6 _ rfl;have y7:=bx.at_ 7 _ rfl;have y8:=bx.at_ 8 _ rfl;have y9:=bx.at_ 9 _ rfl;have y10:=bx.at_ 10 _ rfl;have y11:=bx.at_ 11 _ rfl;have y14:=bx.at_ 14 _ rfl;have y15:=bx.at_ 15 _ rfl;have y16:=bx.at_ 16 _ rfl;have y17:=bx.at_ 17 _ rfl;have y18:=bx.at_ 18 _ rfl;have y19:=bx.at_ 19 _ rfl;have y20:=bx.at_ 20 _ rfl;have y21:=bx.at_ 21 _ rfl;rw [ek] at y0;rw [hth] at y15)|(go_at_call 29;(with_reducible refine (Behind.at_ HS.out hB).mono ?_);rintro e w3 ⟨rfl,hb3⟩;replace bx:=bx.keep hb3 bx.lt;replace hB:=hB.on hb3 hB.size;have y0:=bx.at_ 0 _ rfl;have y3:=bx.at_ 3 _ rfl;have y4:=bx.at_ 4 _ rfl;have y5:=bx.at_ 5 _ rfl;have y6:=bx.at_ 6 _ rfl;have y7:=bx.at_ 7 _ rfl;have y8:=bx.at_ 8 _ rfl;have y9:=bx.at_ 9 _ rfl;have y10:=bx.at_ 10 _ rfl;have y11:=bx.at_ 11 _ rfl;have y14:=bx.at_ 14 _ rfl;have y15:=bx.at_ 15 _ rfl;have y16:=bx.at_ 16 _ rfl;have y17:=bx.at_ 17 _ rfl;have y18:=bx.at_ 18 _ rfl;have y19:=bx.at_ 19 _ rfl;have y20:=bx.at_ 20 _ rfl;have y21:=bx.at_ 21 _ rfl;rw [ek] at y0;rw [hth] at y15)|(go_at_call 30;(with_reducible refine (Behind.at_ HV.out hB).mono ?_);rintro e w4 ⟨rfl,hb4⟩;replace bx:=bx.keep hb4 bx.lt;replace hB:=hB.on hb4 hB.size;have y0:=bx.at_ 0 _ rfl;have y3:=bx.at_ 3 _ rfl;have y4:=bx.at_ 4 _ rfl;have y5:=bx.at_ 5 _ rfl;have y6:=bx.at_ 6 _ rfl;have y7:=bx.at_ 7 _ rfl;have y8:=bx.at_ 8 _ rfl;have y9:=bx.at_ 9 _ rfl;have y10:=bx.at_ 10 _ rfl;have y11:=bx.at_ 11 _ rfl;have y14:=bx.at_ 14 _ rfl;have y15:=bx.at_ 15 _ rfl;have y16:=bx.at_ 16 _ rfl;have y17:=bx.at_ 17 _ rfl;have y18:=bx.at_ 18 _ rfl;have y19:=bx.at_ 19 _ rfl;have y20:=bx.at_ 20 _ rfl;have y21:=bx.at_ 21 _ rfl;rw [ek] at y0;rw [hth] at y15)|(go_at_call 31;(with_reducible refine (Behind.at_ HF.out hB).mono ?_);rintro e w5 ⟨rfl,hb5⟩;replace hB:=hB.on hb5 hB.size))
    go_ret
    exact ⟨ret_bool (by rw [HT.out];simp),hB⟩
set_option maxHeartbeats 8000000 in
set_option maxRecDepth 100000 in
theorem msgSound_4 (w:World) (c:MC) (ek:c.k=4) {nn sd vn fs sm:Bool} (H:MsH w c nn sd vn fs) (HSM:Hid (Behind w 26 #[.agg (mcells c).toArray, .agg ([.int .u8 4, .string c.doc, .int .i64 c.n, .int .u8 0, .int .u32 0, .int .u32 0, .int .u8 0, .int .i64 0, .string { data:= #[] }, .slice none 0 0, .slice none 0 0, .slice none 0 0, .int .u32 0, .int .u32 0, .int .u16 0, .bool c.there, .int .u8 0, .int .i64 0, .string { data:= #[] }, .slice none 0 0, .slice none 0 0, .slice none 0 0] :List Value).toArray] (.bool sm))):
    Calls Tryd.prog 16 #[.agg (mcells c).toArray] w fun e w'=>e= .returned (.bool (sndM c.doc c.n 0 5000 sm false nn sd c.there vn false fs))∧Below w.heap.size w w':=by
  obtain ⟨HN,HS,HV,HF⟩:=H
  obtain ⟨R,hR⟩:∃R,sndM c.doc c.n 0 5000 sm false nn sd c.there vn false fs=R:=⟨_,rfl⟩
  rw [hR]
  rw [sndM] at hR
  obtain ⟨bd,hbd⟩:∃b,(c.doc.toList== [])=b:=⟨_,rfl⟩
  rw [hbd] at hR
  have HR:=Lib.hid hR
  clear hR
  have z0:=(BC.start w (mcells c).toArray 36).at_ 0 _ rfl
  have z1:=(BC.start w (mcells c).toArray 36).at_ 1 _ rfl
  rw [ek] at z0
  rcases bcF bd (bcT sm trivial) with rfl|⟨rfl,(rfl|⟨rfl,_⟩)⟩
  all_goals
    go_enter Tryd.func16,Tryd.ntmps16
    go_wp2_with (first|(refine wp_makeM rfl _ _ rfl ?_;refine ⟨w,_,_,_,_, [.int .u8 4, .string c.doc, .int .i64 0, .int .u8 0, .int .u32 0, .int .u32 0, .int .u8 0, .int .i64 0, .string { data:= #[] }, .slice none 0 0, .slice none 0 0, .slice none 0 0, .int .u32 0, .int .u32 0, .int .u16 0, .bool false, .int .u8 0, .int .i64 0, .string { data:= #[] }, .slice none 0 0, .slice none 0 0, .slice none 0 0],rfl,rfl,rfl,rfl,rfl,rfl, ?_⟩;intro W2 bx bxx hB;clear z0 z1;have y0:=bx.at_ 0 _ rfl;have y1:=bx.at_ 1 _ rfl;have y2:=bx.at_ 2 _ rfl;have y15:=bx.at_ 15 _ rfl;rw [ek] at y0;have x15:=bxx.at_ 15 _ rfl;have x2:=bxx.at_ 2 _ rfl;have g15:=bxx.fr 15;have g2:=bxx.fr 2)|(refine wp_loadM rfl _ rfl ?_;first|(refine ⟨w.heap.size,mcells c,rfl,rfl,((bx.far (by omega)).far (by omega)), ?_⟩)|(refine ⟨w.heap.size+1, [.int .u8 4, .string c.doc, .int .i64 c.n, .int .u8 0, .int .u32 0, .int .u32 0, .int .u8 0, .int .i64 0, .string { data:= #[] }, .slice none 0 0, .slice none 0 0, .slice none 0 0, .int .u32 0, .int .u32 0, .int .u16 0, .bool c.there, .int .u8 0, .int .i64 0, .string { data:= #[] }, .slice none 0 0, .slice none 0 0, .slice none 0 0],rfl,rfl,((bxx.set (i:=15) (x:= .bool c.there) (by simp)).set (i:=2) (x:= .int .i64 c.n) (by simp)), ?_⟩))|(go_at_call 11;refine (numbered_any 4 _).mono ?_;rintro e w0 ⟨rfl,rfl⟩)|(go_at_call 26;(with_reducible refine (Behind.at_ HSM.out ((hB.setCell (by simp) _).setCell (by simp) _)).mono ?_);rintro e w1 ⟨rfl,hb1⟩))
  all_goals first
    |(go_ret;exact ⟨ret_bool (by rw [←HR.out];first|(simp;done)|(simp;omega)|(simp;intros;omega)),by first|exact ((hB.setCell (by simp) _).setCell (by simp) _)|exact Below.on ((hB.setCell (by simp) _).setCell (by simp) _) hb1 (Below.size ((hB.setCell (by simp) _).setCell (by simp) _))⟩)
    |skip
  have HT:Hid (R=((if false then !nn && sd else nn) && ((c.there||vn) && (!false && fs)))):=by
    show _=_
    rw [←HR.out,show decide (c.doc.size≤20)=true by simp;omega,show decide (0≤c.n)=true by simp;omega,show decide (c.n≤5000)=true by simp;omega];rfl
  replace hB:=Below.on ((hB.setCell (by simp) _).setCell (by simp) _) hb1 (Below.size ((hB.setCell (by simp) _).setCell (by simp) _))
  replace bx:=BC.keep ((bx.far (by omega)).far (by omega)) hb1 (BC.lt ((bx.far (by omega)).far (by omega)))
  clear HR hb1 hbd HSM bxx
  obtain ⟨th,hth⟩:∃b,c.there=b:=⟨_,rfl⟩
  rw [hth] at HT
  have HE:Hid (c.k=4):=ek
  have q0:=bx.at_ 0 _ rfl;have q3:=bx.at_ 3 _ rfl;have q4:=bx.at_ 4 _ rfl;have q5:=bx.at_ 5 _ rfl;have q6:=bx.at_ 6 _ rfl;have q7:=bx.at_ 7 _ rfl;have q8:=bx.at_ 8 _ rfl;have q9:=bx.at_ 9 _ rfl;have q10:=bx.at_ 10 _ rfl;have q11:=bx.at_ 11 _ rfl;rw [ek] at q0
  have r0:=later_cell q0;have r3:=later_cell q3;have r4:=later_cell q4;have r5:=later_cell q5;have r6:=later_cell q6;have r7:=later_cell q7;have r8:=later_cell q8;have r9:=later_cell q9;have r10:=later_cell q10;have r11:=later_cell q11
  rcases bcT nn (bcO th vn trivial) with rfl|⟨rfl,(⟨rfl,rfl⟩|⟨(rfl|⟨rfl,rfl⟩),_⟩)⟩
  all_goals
    refine wp_region_later (by kernel_rfl) (by kernel_rfl) ?_
    repeat (go_big_quiet_step (first|(go_at_call 27;exact later_call (brings_at 4 rfl _))|(go_at_call 28;exact later_call (HN.out _ (hB.on (below_later _ _) hB.size)))))
    refine wpQuiet_nil ?_
    intro _ hw'
    obtain ⟨pq,hw''⟩:=hw'
    subst hw''
    replace bx:=bx.keep (below_later w1 pq) bx.lt
    replace hB:=hB.on (below_later w1 pq) hB.size
    clear q0 q3 q4 q5 q6 q7 q8 q9 q10 q11 r0 r3 r4 r5 r6 r7 r8 r9 r10 r11
    have y0:=bx.at_ 0 _ rfl;have y3:=bx.at_ 3 _ rfl;have y4:=bx.at_ 4 _ rfl;have y5:=bx.at_ 5 _ rfl;have y6:=bx.at_ 6 _ rfl;have y7:=bx.at_ 7 _ rfl;have y8:=bx.at_ 8 _ rfl;have y9:=bx.at_ 9 _ rfl;have y10:=bx.at_ 10 _ rfl;have y11:=bx.at_ 11 _ rfl;have y14:=bx.at_ 14 _ rfl;have y15:=bx.at_ 15 _ rfl;have y16:=bx.at_ 16 _ rfl;have y17:=bx.at_ 17 _ rfl;have y18:=bx.at_ 18 _ rfl;have y19:=bx.at_ 19 _ rfl;have y20:=bx.at_ 20 _ rfl;have y21:=bx.at_ 21 _ rfl;rw [ek] at y0
    rw [hth] at y15
    go_wp2_with (first|(go_at_call 27;(with_reducible refine (brings_at 4 rfl _).mono ?_);rintro e w2 ⟨rfl,hb2⟩;replace bx:=bx.keep hb2 bx.lt;replace hB:=hB.on hb2 hB.size;have y0:=bx.at_ 0 _ rfl;have y3:=bx.at_ 3 _ rfl;have y4:=bx.at_ 4 _ rfl;have y5:=bx.at_ 5 _ rfl;have y6:=bx.at_ 6 _ rfl;have y7:=bx.at_ 7 _ rfl;have y8:=bx.at_ 8 _ rfl;have y9:=bx.at_ 9 _ rfl;have y10:=bx.at_ 10 _ rfl;have y11:=bx.at_ 11 _ rfl;have y14:=bx.at_ 14 _ rfl;have y15:=bx.at_ 15 _ rfl;have y16:=bx.at_ 16 _ rfl;have y17:=bx.at_ 17 _ rfl;have y18:=bx.at_ 18 _ rfl;have y19:=bx.at_ 19 _ rfl;have y20:=bx.at_ 20 _ rfl;have y21:=bx.at_ 21 _ rfl;rw [ek] at y0;rw [hth] at y15)|(go_at_call 29;(with_reducible refine (Behind.at_ HS.out hB).mono ?_);rintro e w3 ⟨rfl,hb3⟩;replace bx:=bx.keep hb3 bx.lt;replace hB:=hB.on hb3 hB.size;have y0:=bx.at_ 0 _ rfl;have y3:=bx.at_ 3 _ rfl;have y4:=bx.at_ 4 _ rfl;have y5:=bx.at_ 5 _ rfl;have y6:=bx.at_ 6 _ rfl;have y7:=bx.at_ 7 _ rfl;have y8:=bx.at_ 8 _ rfl;have y9:=bx.at_ 9 _ rfl;have y10:=bx.at_ 10 _ rfl;have y11:=bx.at_ 11 _ rfl;have y14:=bx.at_ 14 _ rfl;have y15:=bx.at_ 15 _ rfl;have y16:=bx.at_ 16 _ rfl;have y17:=bx.at_ 17 _ rfl;have y18:=bx.at_ 18 _ rfl;have y19:=bx.at_ 19 _ rfl;have y20:=bx.at_ 20 _ rfl;have y21:=bx.at_ 21 _ rfl;rw [ek] at y0;rw [hth] at y15)|(go_at_call 30;(with_reducible refine (Behind.at_ HV.out hB).mono ?_);rintro e w4 ⟨rfl,hb4⟩;replace bx:=bx.keep hb4 bx.lt;replace hB:=hB.on hb4 hB.size;have y0:=bx.at_ 0 _ rfl;have y3:=bx.at_ 3 _ rfl;have y4:=bx.at_ 4 _ rfl;have y5:=bx.at_ 5 _ rfl;have y6:=bx.at_ 6 _ rfl;have y7:=bx.at_ 7 _ rfl;have y8:=bx.at_ 8 _ rfl;have y9:=bx.at_ 9 _ rfl;have y10:=bx.at_ 10 _ rfl;have y11:=bx.at_ 11 _ rfl;have y14:=bx.at_ 14 _ rfl;have y15:=bx.at_ 15 _ rfl;have y16:=bx.at_ 16 _ rfl;have y17:=bx.at_ 17 _ rfl;have y18:=bx.at_ 18 _ rfl;have y19:=bx.at_ 19 _ rfl;have y20:=bx.at_ 20 _ rfl;have y21:=bx.at_ 21 _ rfl;rw [ek] at y0;rw [hth] at y15)|(go_at_call 31;(with_reducible refine (Behind.at_ HF.out hB).mono ?_);rintro e w5 ⟨rfl,hb5⟩;replace hB:=hB.on hb5 hB.size))
    go_ret
    exact ⟨ret_bool (by rw [HT.out];simp),hB⟩
set_option maxHeartbeats 8000000 in
set_option maxRecDepth 100000 in
theorem msgSound_5 (w:World) (c:MC) (ek:c.k=5) {nn sd vn fs sm:Bool} (H:MsH w c nn sd vn fs) (HSM:Hid (Behind w 26 #[.agg (mcells c).toArray, .agg ([.int .u8 5, .string c.doc, .int .i64 c.n, .int .u8 0, .int .u32 0, .int .u32 0, .int .u8 0, .int .i64 0, .string { data:= #[] }, .slice none 0 0, .slice none 0 0, .slice none 0 0, .int .u32 0, .int .u32 0, .int .u16 0, .bool false, .int .u8 0, .int .i64 0, .string { data:= #[] }, .slice none 0 0, .slice none 0 0, .slice none 0 0] :List Value).toArray] (.bool sm))):
    Calls Tryd.prog 16 #[.agg (mcells c).toArray] w fun e w'=>e= .returned (.bool (sndM c.doc c.n 0 4999 sm true nn sd c.there vn false fs))∧Below w.heap.size w w':=by
  obtain ⟨HN,HS,HV,HF⟩:=H
  obtain ⟨R,hR⟩:∃R,sndM c.doc c.n 0 4999 sm true nn sd c.there vn false fs=R:=⟨_,rfl⟩
  rw [hR]
  rw [sndM] at hR
  obtain ⟨bd,hbd⟩:∃b,(c.doc.toList== [])=b:=⟨_,rfl⟩
  rw [hbd] at hR
  have HR:=Lib.hid hR
  clear hR
  have z0:=(BC.start w (mcells c).toArray 36).at_ 0 _ rfl
  have z1:=(BC.start w (mcells c).toArray 36).at_ 1 _ rfl
  rw [ek] at z0
  rcases bcF bd (bcT sm trivial) with rfl|⟨rfl,(rfl|⟨rfl,_⟩)⟩
  all_goals
    go_enter Tryd.func16,Tryd.ntmps16
    go_wp2_with (first|(refine wp_makeM rfl _ _ rfl ?_;refine ⟨w,_,_,_,_, [.int .u8 5, .string c.doc, .int .i64 0, .int .u8 0, .int .u32 0, .int .u32 0, .int .u8 0, .int .i64 0, .string { data:= #[] }, .slice none 0 0, .slice none 0 0, .slice none 0 0, .int .u32 0, .int .u32 0, .int .u16 0, .bool false, .int .u8 0, .int .i64 0, .string { data:= #[] }, .slice none 0 0, .slice none 0 0, .slice none 0 0],rfl,rfl,rfl,rfl,rfl,rfl, ?_⟩;intro W2 bx bxx hB;clear z0 z1;have y0:=bx.at_ 0 _ rfl;have y1:=bx.at_ 1 _ rfl;have y2:=bx.at_ 2 _ rfl;rw [ek] at y0;have x2:=bxx.at_ 2 _ rfl;have g2:=bxx.fr 2)|(refine wp_loadM rfl _ rfl ?_;first|(refine ⟨w.heap.size,mcells c,rfl,rfl,(bx.far (by omega)), ?_⟩)|(refine ⟨w.heap.size+1, [.int .u8 5, .string c.doc, .int .i64 c.n, .int .u8 0, .int .u32 0, .int .u32 0, .int .u8 0, .int .i64 0, .string { data:= #[] }, .slice none 0 0, .slice none 0 0, .slice none 0 0, .int .u32 0, .int .u32 0, .int .u16 0, .bool false, .int .u8 0, .int .i64 0, .string { data:= #[] }, .slice none 0 0, .slice none 0 0, .slice none 0 0],rfl,rfl,(bxx.set (i:=2) (x:= .int .i64 c.n) (by simp)), ?_⟩))|(go_at_call 11;refine (numbered_any 5 _).mono ?_;rintro e w0 ⟨rfl,rfl⟩)|(go_at_call 26;(with_reducible refine (Behind.at_ HSM.out (hB.setCell (by simp) _)).mono ?_);rintro e w1 ⟨rfl,hb1⟩))
  all_goals first
    |(go_ret;exact ⟨ret_bool (by rw [←HR.out];first|(simp;done)|(simp;omega)|(simp;intros;omega)),by first|exact (hB.setCell (by simp) _)|exact Below.on (hB.setCell (by simp) _) hb1 (Below.size (hB.setCell (by simp) _))⟩)
    |skip
  have HT:Hid (R=((if true then !nn && sd else nn) && ((c.there||vn) && (!false && fs)))):=by
    show _=_
    rw [←HR.out,show decide (c.doc.size≤20)=true by simp;omega,show decide (0≤c.n)=true by simp;omega,show decide (c.n≤4999)=true by simp;omega];rfl
  replace hB:=Below.on (hB.setCell (by simp) _) hb1 (Below.size (hB.setCell (by simp) _))
  replace bx:=BC.keep (bx.far (by omega)) hb1 (BC.lt (bx.far (by omega)))
  clear HR hb1 hbd HSM bxx
  obtain ⟨th,hth⟩:∃b,c.there=b:=⟨_,rfl⟩
  rw [hth] at HT
  have HE:Hid (c.k=5):=ek
  have q0:=bx.at_ 0 _ rfl;have q3:=bx.at_ 3 _ rfl;have q4:=bx.at_ 4 _ rfl;have q5:=bx.at_ 5 _ rfl;have q6:=bx.at_ 6 _ rfl;have q7:=bx.at_ 7 _ rfl;have q8:=bx.at_ 8 _ rfl;have q9:=bx.at_ 9 _ rfl;have q10:=bx.at_ 10 _ rfl;have q11:=bx.at_ 11 _ rfl;rw [ek] at q0
  have r0:=later_cell q0;have r3:=later_cell q3;have r4:=later_cell q4;have r5:=later_cell q5;have r6:=later_cell q6;have r7:=later_cell q7;have r8:=later_cell q8;have r9:=later_cell q9;have r10:=later_cell q10;have r11:=later_cell q11
  rcases bcF nn (bcT sd (bcO th vn trivial)) with rfl|⟨rfl,(rfl|⟨rfl,(⟨rfl,rfl⟩|⟨(rfl|⟨rfl,rfl⟩),_⟩)⟩)⟩
  all_goals
    refine wp_region_later (by kernel_rfl) (by kernel_rfl) ?_
    repeat (go_big_quiet_step (first|(go_at_call 27;exact later_call (brings_at 5 rfl _))|(go_at_call 28;exact later_call (HN.out _ (hB.on (below_later _ _) hB.size)))))
    refine wpQuiet_nil ?_
    intro _ hw'
    obtain ⟨pq,hw''⟩:=hw'
    subst hw''
    replace bx:=bx.keep (below_later w1 pq) bx.lt
    replace hB:=hB.on (below_later w1 pq) hB.size
    clear q0 q3 q4 q5 q6 q7 q8 q9 q10 q11 r0 r3 r4 r5 r6 r7 r8 r9 r10 r11
    have y0:=bx.at_ 0 _ rfl;have y3:=bx.at_ 3 _ rfl;have y4:=bx.at_ 4 _ rfl;have y5:=bx.at_ 5 _ rfl;have y6:=bx.at_ 6 _ rfl;have y7:=bx.at_ 7 _ rfl;have y8:=bx.at_ 8 _ rfl;have y9:=bx.at_ 9 _ rfl;have y10:=bx.at_ 10 _ rfl;have y11:=bx.at_ 11 _ rfl;have y14:=bx.at_ 14 _ rfl;have y15:=bx.at_ 15 _ rfl;have y16:=bx.at_ 16 _ rfl;have y17:=bx.at_ 17 _ rfl;have y18:=bx.at_ 18 _ rfl;have y19:=bx.at_ 19 _ rfl;have y20:=bx.at_ 20 _ rfl;have y21:=bx.at_ 21 _ rfl;rw [ek] at y0
    rw [hth] at y15
    go_wp2_with (first|(go_at_call 27;(with_reducible refine (brings_at 5 rfl _).mono ?_);rintro e w2 ⟨rfl,hb2⟩;replace bx:=bx.keep hb2 bx.lt;replace hB:=hB.on hb2 hB.size;have y0:=bx.at_ 0 _ rfl;have y3:=bx.at_ 3 _ rfl;have y4:=bx.at_ 4 _ rfl;have y5:=bx.at_ 5 _ rfl;have y6:=bx.at_ 6 _ rfl;have y7:=bx.at_ 7 _ rfl;have y8:=bx.at_ 8 _ rfl;have y9:=bx.at_ 9 _ rfl;have y10:=bx.at_ 10 _ rfl;have y11:=bx.at_ 11 _ rfl;have y14:=bx.at_ 14 _ rfl;have y15:=bx.at_ 15 _ rfl;have y16:=bx.at_ 16 _ rfl;have y17:=bx.at_ 17 _ rfl;have y18:=bx.at_ 18 _ rfl;have y19:=bx.at_ 19 _ rfl;have y20:=bx.at_ 20 _ rfl;have y21:=bx.at_ 21 _ rfl;rw [ek] at y0;rw [hth] at y15)|(go_at_call 29;(with_reducible refine (Behind.at_ HS.out hB).mono ?_);rintro e w3 ⟨rfl,hb3⟩;replace bx:=bx.keep hb3 bx.lt;replace hB:=hB.on hb3 hB.size;have y0:=bx.at_ 0 _ rfl;have y3:=bx.at_ 3 _ rfl;have y4:=bx.at_ 4 _ rfl;have y5:=bx.at_ 5 _ rfl;have y6:=bx.at_ 6 _ rfl;have y7:=bx.at_ 7 _ rfl;have y8:=bx.at_ 8 _ rfl;have y9:=bx.at_ 9 _ rfl;have y10:=bx.at_ 10 _ rfl;have y11:=bx.at_ 11 _ rfl;have y14:=bx.at_ 14 _ rfl;have y15:=bx.at_ 15 _ rfl;have y16:=bx.at_ 16 _ rfl;have y17:=bx.at_ 17 _ rfl;have y18:=bx.at_ 18 _ rfl;have y19:=bx.at_ 19 _ rfl;have y20:=bx.at_ 20 _ rfl;have y21:=bx.at_ 21 _ rfl;rw [ek] at y0;rw [hth] at y15)|(go_at_call 30;(with_reducible refine (Behind.at_ HV.out hB).mono ?_);rintro e w4 ⟨rfl,hb4⟩;replace bx:=bx.keep hb4 bx.lt;replace hB:=hB.on hb4 hB.size;have y0:=bx.at_ 0 _ rfl;have y3:=bx.at_ 3 _ rfl;have y4:=bx.at_ 4 _ rfl;have y5:=bx.at_ 5 _ rfl;have y6:=bx.at_ 6 _ rfl;have y7:=bx.at_ 7 _ rfl;have y8:=bx.at_ 8 _ rfl;have y9:=bx.at_ 9 _ rfl;have y10:=bx.at_ 10 _ rfl;have y11:=bx.at_ 11 _ rfl;have y14:=bx.at_ 14 _ rfl;have y15:=bx.at_ 15 _ rfl;have y16:=bx.at_ 16 _ rfl;have y17:=bx.at_ 17 _ rfl;have y18:=bx.at_ 18 _ rfl;have y19:=bx.at_ 19 _ rfl;have y20:=bx.at_ 20 _ rfl;have y21:=bx.at_ 21 _ rfl;rw [ek] at y0;rw [hth] at y15)|(go_at_call 31;(with_reducible refine (Behind.at_ HF.out hB).mono ?_);rintro e w5 ⟨rfl,hb5⟩;replace hB:=hB.on hb5 hB.size))
    go_ret
    exact ⟨ret_bool (by rw [HT.out];simp),hB⟩
set_option maxHeartbeats 8000000 in
set_option maxRecDepth 100000 in
theorem msgSound_6 (w:World) (c:MC) (ek:c.k=6) {nn sd vn fs sm:Bool} (H:MsH w c nn sd vn fs) (HSM:Hid (Behind w 26 #[.agg (mcells c).toArray, .agg ([.int .u8 6, .string c.doc, .int .i64 0, .int .u8 0, .int .u32 0, .int .u32 0, .int .u8 0, .int .i64 0, .string { data:= #[] }, .slice none 0 0, .slice none 0 0, .slice none 0 0, .int .u32 c.src, .int .u32 c.seq, .int .u16 c.err, .bool false, .int .u8 0, .int .i64 0, .string { data:= #[] }, .slice none 0 0, .slice none 0 0, .slice none 0 0] :List Value).toArray] (.bool sm))):
    Calls Tryd.prog 16 #[.agg (mcells c).toArray] w fun e w'=>e= .returned (.bool (sndM c.doc c.n 0 5000 sm false nn sd c.there vn (c.err==0) fs))∧Below w.heap.size w w':=by
  obtain ⟨HN,HS,HV,HF⟩:=H
  obtain ⟨R,hR⟩:∃R,sndM c.doc c.n 0 5000 sm false nn sd c.there vn (c.err==0) fs=R:=⟨_,rfl⟩
  rw [hR]
  rw [sndM] at hR
  obtain ⟨bd,hbd⟩:∃b,(c.doc.toList== [])=b:=⟨_,rfl⟩
  rw [hbd] at hR
  obtain ⟨er,her⟩:∃b,(c.err==0)=b:=⟨_,rfl⟩
  rw [her] at hR
  have HR:=Lib.hid hR
  clear hR
  have z0:=(BC.start w (mcells c).toArray 36).at_ 0 _ rfl
  have z1:=(BC.start w (mcells c).toArray 36).at_ 1 _ rfl
  rw [ek] at z0
  rcases bcF bd (bcT sm trivial) with rfl|⟨rfl,(rfl|⟨rfl,_⟩)⟩
  all_goals
    go_enter Tryd.func16,Tryd.ntmps16
    go_wp2_with (first|(refine wp_makeM rfl _ _ rfl ?_;refine ⟨w,_,_,_,_, [.int .u8 6, .string c.doc, .int .i64 0, .int .u8 0, .int .u32 0, .int .u32 0, .int .u8 0, .int .i64 0, .string { data:= #[] }, .slice none 0 0, .slice none 0 0, .slice none 0 0, .int .u32 0, .int .u32 0, .int .u16 0, .bool false, .int .u8 0, .int .i64 0, .string { data:= #[] }, .slice none 0 0, .slice none 0 0, .slice none 0 0],rfl,rfl,rfl,rfl,rfl,rfl, ?_⟩;intro W2 bx bxx hB;clear z0 z1;have y0:=bx.at_ 0 _ rfl;have y1:=bx.at_ 1 _ rfl;have y2:=bx.at_ 2 _ rfl;have y12:=bx.at_ 12 _ rfl;have y13:=bx.at_ 13 _ rfl;have y14:=bx.at_ 14 _ rfl;rw [ek] at y0;have x12:=bxx.at_ 12 _ rfl;have x13:=bxx.at_ 13 _ rfl;have x14:=bxx.at_ 14 _ rfl;have g12:=bxx.fr 12;have g13:=bxx.fr 13;have g14:=bxx.fr 14)|(refine wp_loadM rfl _ rfl ?_;first|(refine ⟨w.heap.size,mcells c,rfl,rfl,(bc_drewM (((bx.far (by omega)).far (by omega)).far (by omega))), ?_⟩)|(refine ⟨w.heap.size+1, [.int .u8 6, .string c.doc, .int .i64 0, .int .u8 0, .int .u32 0, .int .u32 0, .int .u8 0, .int .i64 0, .string { data:= #[] }, .slice none 0 0, .slice none 0 0, .slice none 0 0, .int .u32 c.src, .int .u32 c.seq, .int .u16 c.err, .bool false, .int .u8 0, .int .i64 0, .string { data:= #[] }, .slice none 0 0, .slice none 0 0, .slice none 0 0],rfl,rfl,(bc_drewM (((bxx.set (i:=12) (x:= .int .u32 c.src) (by simp)).set (i:=13) (x:= .int .u32 c.seq) (by simp)).set (i:=14) (x:= .int .u16 c.err) (by simp))), ?_⟩))|(go_at_call 11;refine (numbered_any 6 _).mono ?_;rintro e w0 ⟨rfl,rfl⟩)|(go_at_call 26;(with_reducible refine (Behind.at_ HSM.out (Below.drew (((hB.setCell (by simp) _).setCell (by simp) _).setCell (by simp) _))).mono ?_);rintro e w1 ⟨rfl,hb1⟩))
    go_region
    go_wp2_with (first|(refine wp_makeM rfl _ _ rfl ?_;refine ⟨w,_,_,_,_, [.int .u8 6, .string c.doc, .int .i64 0, .int .u8 0, .int .u32 0, .int .u32 0, .int .u8 0, .int .i64 0, .string { data:= #[] }, .slice none 0 0, .slice none 0 0, .slice none 0 0, .int .u32 0, .int .u32 0, .int .u16 0, .bool false, .int .u8 0, .int .i64 0, .string { data:= #[] }, .slice none 0 0, .slice none 0 0, .slice none 0 0],rfl,rfl,rfl,rfl,rfl,rfl, ?_⟩;intro W2 bx bxx hB;clear z0 z1;have y0:=bx.at_ 0 _ rfl;have y1:=bx.at_ 1 _ rfl;have y2:=bx.at_ 2 _ rfl;have y12:=bx.at_ 12 _ rfl;have y13:=bx.at_ 13 _ rfl;have y14:=bx.at_ 14 _ rfl;rw [ek] at y0;have x12:=bxx.at_ 12 _ rfl;have x13:=bxx.at_ 13 _ rfl;have x14:=bxx.at_ 14 _ rfl;have g12:=bxx.fr 12;have g13:=bxx.fr 13;have g14:=bxx.fr 14)|(refine wp_loadM rfl _ rfl ?_;first|(refine ⟨w.heap.size,mcells c,rfl,rfl,(bc_drewM (((bx.far (by omega)).far (by omega)).far (by omega))), ?_⟩)|(refine ⟨w.heap.size+1, [.int .u8 6, .string c.doc, .int .i64 0, .int .u8 0, .int .u32 0, .int .u32 0, .int .u8 0, .int .i64 0, .string { data:= #[] }, .slice none 0 0, .slice none 0 0, .slice none 0 0, .int .u32 c.src, .int .u32 c.seq, .int .u16 c.err, .bool false, .int .u8 0, .int .i64 0, .string { data:= #[] }, .slice none 0 0, .slice none 0 0, .slice none 0 0],rfl,rfl,(bc_drewM (((bxx.set (i:=12) (x:= .int .u32 c.src) (by simp)).set (i:=13) (x:= .int .u32 c.seq) (by simp)).set (i:=14) (x:= .int .u16 c.err) (by simp))), ?_⟩))|(go_at_call 11;refine (numbered_any 6 _).mono ?_;rintro e w0 ⟨rfl,rfl⟩)|(go_at_call 26;(with_reducible refine (Behind.at_ HSM.out (Below.drew (((hB.setCell (by simp) _).setCell (by simp) _).setCell (by simp) _))).mono ?_);rintro e w1 ⟨rfl,hb1⟩))
  all_goals first
    |(go_ret;exact ⟨ret_bool (by rw [←HR.out];first|(simp;done)|(simp;omega)|(simp;intros;omega)),by first|exact (Below.drew (((hB.setCell (by simp) _).setCell (by simp) _).setCell (by simp) _))|exact Below.on (Below.drew (((hB.setCell (by simp) _).setCell (by simp) _).setCell (by simp) _)) hb1 (Below.size (Below.drew (((hB.setCell (by simp) _).setCell (by simp) _).setCell (by simp) _)))⟩)
    |skip
  have HT:Hid (R=((if false then !nn && sd else nn) && ((c.there||vn) && (!er && fs)))):=by
    show _=_
    rw [←HR.out,show decide (c.doc.size≤20)=true by simp;omega,show decide (0≤c.n)=true by simp;omega,show decide (c.n≤5000)=true by simp;omega];rfl
  replace hB:=Below.on (Below.drew (((hB.setCell (by simp) _).setCell (by simp) _).setCell (by simp) _)) hb1 (Below.size (Below.drew (((hB.setCell (by simp) _).setCell (by simp) _).setCell (by simp) _)))
  replace bx:=BC.keep (bc_drewM (((bx.far (by omega)).far (by omega)).far (by omega))) hb1 (BC.lt (bc_drewM (((bx.far (by omega)).far (by omega)).far (by omega))))
  clear HR hb1 hbd HSM bxx
  obtain ⟨th,hth⟩:∃b,c.there=b:=⟨_,rfl⟩
  rw [hth] at HT
  have HE:Hid (c.k=6):=ek
  have q0:=bx.at_ 0 _ rfl;have q3:=bx.at_ 3 _ rfl;have q4:=bx.at_ 4 _ rfl;have q5:=bx.at_ 5 _ rfl;have q6:=bx.at_ 6 _ rfl;have q7:=bx.at_ 7 _ rfl;have q8:=bx.at_ 8 _ rfl;have q9:=bx.at_ 9 _ rfl;have q10:=bx.at_ 10 _ rfl;have q11:=bx.at_ 11 _ rfl;rw [ek] at q0
  have r0:=later_cell q0;have r3:=later_cell q3;have r4:=later_cell q4;have r5:=later_cell q5;have r6:=later_cell q6;have r7:=later_cell q7;have r8:=later_cell q8;have r9:=later_cell q9;have r10:=later_cell q10;have r11:=later_cell q11
  rcases bcT nn (bcO th vn (bcF er trivial)) with rfl|⟨rfl,(⟨rfl,rfl⟩|⟨(rfl|⟨rfl,rfl⟩),(rfl|⟨rfl,_⟩)⟩)⟩
  all_goals
    refine wp_region_later (by kernel_rfl) (by kernel_rfl) ?_
    repeat (go_big_quiet_step (first|(go_at_call 27;exact later_call (brings_at 6 rfl _))|(go_at_call 28;exact later_call (HN.out _ (hB.on (below_later _ _) hB.size)))))
    refine wpQuiet_nil ?_
    intro _ hw'
    obtain ⟨pq,hw''⟩:=hw'
    subst hw''
    replace bx:=bx.keep (below_later w1 pq) bx.lt
    replace hB:=hB.on (below_later w1 pq) hB.size
    clear q0 q3 q4 q5 q6 q7 q8 q9 q10 q11 r0 r3 r4 r5 r6 r7 r8 r9 r10 r11
    have y0:=bx.at_ 0 _ rfl;have y3:=bx.at_ 3 _ rfl;have y4:=bx.at_ 4 _ rfl;have y5:=bx.at_ 5 _ rfl;have y6:=bx.at_ 6 _ rfl;have y7:=bx.at_ 7 _ rfl;have y8:=bx.at_ 8 _ rfl;have y9:=bx.at_ 9 _ rfl;have y10:=bx.at_ 10 _ rfl;have y11:=bx.at_ 11 _ rfl;have y14:=bx.at_ 14 _ rfl;have y15:=bx.at_ 15 _ rfl;have y16:=bx.at_ 16 _ rfl;have y17:=bx.at_ 17 _ rfl;have y18:=bx.at_ 18 _ rfl;have y19:=bx.at_ 19 _ rfl;have y20:=bx.at_ 20 _ rfl;have y21:=bx.at_ 21 _ rfl;rw [ek] at y0
    rw [hth] at y15
    go_wp2_with (first|(go_at_call 27;(with_reducible refine (brings_at 6 rfl _).mono ?_);rintro e w2 ⟨rfl,hb2⟩;replace bx:=bx.keep hb2 bx.lt;replace hB:=hB.on hb2 hB.size;have y0:=bx.at_ 0 _ rfl;have y3:=bx.at_ 3 _ rfl;have y4:=bx.at_ 4 _ rfl;have y5:=bx.at_ 5 _ rfl;have y6:=bx.at_ 6 _ rfl;have y7:=bx.at_ 7 _ rfl;have y8:=bx.at_ 8 _ rfl;have y9:=bx.at_ 9 _ rfl;have y10:=bx.at_ 10 _ rfl;have y11:=bx.at_ 11 _ rfl;have y14:=bx.at_ 14 _ rfl;have y15:=bx.at_ 15 _ rfl;have y16:=bx.at_ 16 _ rfl;have y17:=bx.at_ 17 _ rfl;have y18:=bx.at_ 18 _ rfl;have y19:=bx.at_ 19 _ rfl;have y20:=bx.at_ 20 _ rfl;have y21:=bx.at_ 21 _ rfl;rw [ek] at y0;rw [hth] at y15)|(go_at_call 29;(with_reducible refine (Behind.at_ HS.out hB).mono ?_);rintro e w3 ⟨rfl,hb3⟩;replace bx:=bx.keep hb3 bx.lt;replace hB:=hB.on hb3 hB.size;have y0:=bx.at_ 0 _ rfl;have y3:=bx.at_ 3 _ rfl;have y4:=bx.at_ 4 _ rfl;have y5:=bx.at_ 5 _ rfl;have y6:=bx.at_ 6 _ rfl;have y7:=bx.at_ 7 _ rfl;have y8:=bx.at_ 8 _ rfl;have y9:=bx.at_ 9 _ rfl;have y10:=bx.at_ 10 _ rfl;have y11:=bx.at_ 11 _ rfl;have y14:=bx.at_ 14 _ rfl;have y15:=bx.at_ 15 _ rfl;have y16:=bx.at_ 16 _ rfl;have y17:=bx.at_ 17 _ rfl;have y18:=bx.at_ 18 _ rfl;have y19:=bx.at_ 19 _ rfl;have y20:=bx.at_ 20 _ rfl;have y21:=bx.at_ 21 _ rfl;rw [ek] at y0;rw [hth] at y15)|(go_at_call 30;(with_reducible refine (Behind.at_ HV.out hB).mono ?_);rintro e w4 ⟨rfl,hb4⟩;replace bx:=bx.keep hb4 bx.lt;replace hB:=hB.on hb4 hB.size;have y0:=bx.at_ 0 _ rfl;have y3:=bx.at_ 3 _ rfl;have y4:=bx.at_ 4 _ rfl;have y5:=bx.at_ 5 _ rfl;have y6:=bx.at_ 6 _ rfl;have y7:=bx.at_ 7 _ rfl;have y8:=bx.at_ 8 _ rfl;have y9:=bx.at_ 9 _ rfl;have y10:=bx.at_ 10 _ rfl;have y11:=bx.at_ 11 _ rfl;have y14:=bx.at_ 14 _ rfl;have y15:=bx.at_ 15 _ rfl;have y16:=bx.at_ 16 _ rfl;have y17:=bx.at_ 17 _ rfl;have y18:=bx.at_ 18 _ rfl;have y19:=bx.at_ 19 _ rfl;have y20:=bx.at_ 20 _ rfl;have y21:=bx.at_ 21 _ rfl;rw [ek] at y0;rw [hth] at y15)|(go_at_call 31;(with_reducible refine (Behind.at_ HF.out hB).mono ?_);rintro e w5 ⟨rfl,hb5⟩;replace hB:=hB.on hb5 hB.size))
    go_ret
    exact ⟨ret_bool (by rw [HT.out];simp),hB⟩
set_option maxHeartbeats 2000000 in
set_option maxRecDepth 100000 in
theorem msgSound_0 (w:World) (c:MC) (h1:¬c.k=1) (h2:¬c.k=2) (h3:¬c.k=3) (h4:¬c.k=4) (h5:¬c.k=5) (h6:¬c.k=6) {R:Bool} (hR:R=false):
    Calls Tryd.prog 16 #[.agg (mcells c).toArray] w fun e w'=>e= .returned (.bool R)∧Below w.heap.size w w':=by
  subst hR
  have z0:=(BC.start w (mcells c).toArray 36).at_ 0 _ rfl
  have z1:=(BC.start w (mcells c).toArray 36).at_ 1 _ rfl
  go_enter Tryd.func16,Tryd.ntmps16
  go_wp2_with (refine wp_makeM rfl _ _ rfl ?_;refine ⟨w,_,_,_,_, [.int .u8 c.k, .string c.doc, .int .i64 0, .int .u8 0, .int .u32 0, .int .u32 0, .int .u8 0, .int .i64 0, .string { data:= #[] }, .slice none 0 0, .slice none 0 0, .slice none 0 0, .int .u32 0, .int .u32 0, .int .u16 0, .bool false, .int .u8 0, .int .i64 0, .string { data:= #[] }, .slice none 0 0, .slice none 0 0, .slice none 0 0],rfl,rfl,rfl,rfl,rfl,rfl, ?_⟩;intro W2 bx bxx hB;clear z0 z1;have y0:=bx.at_ 0 _ rfl)
  go_ret
  exact ⟨rfl,hB⟩
end Go.Proofs.YthceefjafklcmaaDoor
namespace Go.Proofs.YthceefjafklcmaaDoor
open Go.RowKit
noncomputable def sameM (m:Ms):Bool:=
  (numberedB m.k||m.n==0) && ((m.k==6||(m.src==0 && (m.seq==0 && m.err==0))) && ((m.k==4|| !m.there) && (m.k==1||m.f.isEmpty)))
noncomputable def msgSound (m:Ms):Bool:=
  (decide (1≤m.k) && decide (m.k≤6)) && sndM m.doc m.n (if m.k=1 then -1 else 0) (if m.k=5 then 4999 else 5000) (sameM m) (bringsB m.k) (enNone m.e) (enSound m.e) m.there (eqv m.v V.none) (m.k==6 && m.err==0) (fieldsSound m.f)
theorem eqB_nil (l:List ByteArray):eqB l [] =l.isEmpty:=by
  cases l with
  |nil=>exact eqB_yes rfl
  |cons x r=>exact eqB_no (by simp)
theorem eqB_self {α:Type} (x:α):eqB x x=true:=eqB_yes rfl
set_option maxHeartbeats 4000000 in
set_option maxRecDepth 100000 in
theorem msgSound_any (m:Ms) (w:World) (hT:Tabs w) (c:MC) (hm:IsMsg w w.heap.size m c) (hs:m.e.small):
    Calls Tryd.prog 16 #[.agg (mcells c).toArray] w fun e w'=>e= .returned (.bool (msgSound m))∧Below w.heap.size w w':=by
  cases hm with
  |mk c e v f hb he hv hf=>
  dsimp only at hs
  have H:MsH w c (enNone e) (enSound e) (eqv v V.none) (fieldsSound f):=⟨fun W hW=>none_any e W c.e (he.later_ hW),fun W hW=>enSound_any e W (hT.below hW) c.e (he.later_ hW) hs,fun W hW=>valSame_any v V.none W c.v VC.none (hv.later_ hW) (isVal_none _ _),fun W hW=>projSound_any f W (hT.below hW) _ _ _ (hf.later_ hW)⟩
  have HQ:∀(d:MC) (l':List ByteArray) {sm:Bool},IsStrs w w.heap.size l' d.fa d.fl d.fc→sameB c d (eqB f l')=sm→Hid (Behind w 26 #[.agg (mcells c).toArray, .agg (mcells d).toArray] (.bool sm)):=fun d l' sm hd h W hW=>by
    rw [←h];exact same_any W c d f l' (hf.later_ hW) (hd.later_ hW)
  have hn:=IsStrs.nil w w.heap.size
  by_cases e1:c.k=1
  · have hq:=msgSound_1 w c e1 H (HQ ⟨1,c.doc,c.n,ezero,0,0,0,false,vzero,c.fa,c.fl,c.fc⟩ f hf rfl)
    refine hq.mono fun e' w' ⟨h1,h2⟩=>⟨?_,h2⟩
    rw [h1]
    congr 2
    simp only [msgSound,sameM,sameB,e1,bringsB,numberedB,eqB_self]
    simp [sndM,Bool.and_assoc]
    done
  by_cases e2:c.k=2
  · have hq:=msgSound_2 w c e2 H (HQ ⟨2,c.doc,0,ezero,0,0,0,false,vzero,none,0,0⟩ [] hn rfl)
    refine hq.mono fun e' w' ⟨h1,h2⟩=>⟨?_,h2⟩
    rw [h1]
    congr 2
    simp only [msgSound,sameM,sameB,e2,bringsB,numberedB,eqB_nil]
    simp [sndM,Bool.and_assoc]
    done
  by_cases e3:c.k=3
  · have hq:=msgSound_3 w c e3 H (HQ ⟨3,c.doc,c.n,ezero,0,0,0,false,vzero,none,0,0⟩ [] hn rfl)
    refine hq.mono fun e' w' ⟨h1,h2⟩=>⟨?_,h2⟩
    rw [h1]
    congr 2
    simp only [msgSound,sameM,sameB,e3,bringsB,numberedB,eqB_nil]
    simp [sndM,Bool.and_assoc]
    done
  by_cases e4:c.k=4
  · have hq:=msgSound_4 w c e4 H (HQ ⟨4,c.doc,c.n,ezero,0,0,0,c.there,vzero,none,0,0⟩ [] hn rfl)
    refine hq.mono fun e' w' ⟨h1,h2⟩=>⟨?_,h2⟩
    rw [h1]
    congr 2
    simp only [msgSound,sameM,sameB,e4,bringsB,numberedB,eqB_nil]
    simp [sndM,Bool.and_assoc]
    done
  by_cases e5:c.k=5
  · have hq:=msgSound_5 w c e5 H (HQ ⟨5,c.doc,c.n,ezero,0,0,0,false,vzero,none,0,0⟩ [] hn rfl)
    refine hq.mono fun e' w' ⟨h1,h2⟩=>⟨?_,h2⟩
    rw [h1]
    congr 2
    simp only [msgSound,sameM,sameB,e5,bringsB,numberedB,eqB_nil]
    simp [sndM,Bool.and_assoc]
    done
  by_cases e6:c.k=6
  · have hq:=msgSound_6 w c e6 H (HQ ⟨6,c.doc,0,ezero,c.src,c.seq,c.err,false,vzero,none,0,0⟩ [] hn rfl)
    refine hq.mono fun e' w' ⟨h1,h2⟩=>⟨?_,h2⟩
    rw [h1]
    congr 2
    simp only [msgSound,sameM,sameB,e6,bringsB,numberedB,eqB_nil]
    simp [sndM,Bool.and_assoc]
    done
  exact msgSound_0 w c (by omega) (by omega) (by omega) (by omega) (by omega) (by omega) (by
    have:¬(1≤c.k∧c.k≤6):=by omega
    simp only [msgSound]
    by_cases h1:1≤c.k
    · rw [show decide (c.k≤6)=false by simp;omega];simp
    · rw [show decide (1≤c.k)=false by simp;omega];simp)
end Go.Proofs.YthceefjafklcmaaDoor
namespace Go.Proofs.YthceefjafklcmaaDoor
open Go.RowKit
set_option maxHeartbeats 4000000 in
set_option maxRecDepth 100000 in
theorem tailM_2 (w:World) (c:MC) (ek:c.k=2):
    Calls Tryd.prog 18 #[.agg (mcells c).toArray] w fun e w'=>(∃a n cp,e= .returned (.tuple #[.slice a n cp, .int .u16 (0)])∧IsB w' w'.heap.size a n cp ([]))∧Below w.heap.size w w':=by
  have z0:=(BC.start w (mcells c).toArray 36).at_ 0 _ rfl
  have hB0:Below w.heap.size w (w.alloc (.cells (mcells c).toArray 36)):=(Below.refl _ _).alloc (Nat.le_refl _) _
  rw [ek] at z0
  go_enter Tryd.func18,Tryd.ntmps18
  go_wp2_with fail
  go_returns
  exact ⟨⟨none,0,0,rfl, .nil _ _⟩,hB0⟩
set_option maxHeartbeats 4000000 in
set_option maxRecDepth 100000 in
theorem tailM_3 (w:World) (c:MC) (ek:c.k=3) {er:Int} {bs:List UInt8} (HE:Hid (∀W,Below w.heap.size w W→Calls Tryd.prog 32 #[.agg #[.int .u8 c.e.k, .int .u32 c.e.src, .int .u32 c.e.seq, .int .u8 c.e.v.k, .int .i64 c.e.v.n, .string c.e.v.s, .slice c.e.v.la c.e.v.ll c.e.v.lc, .slice c.e.v.oa c.e.v.ol c.e.v.oc, .slice c.e.oa c.e.ol c.e.oc]] W fun e w'=>(∃a n c,e= .returned (.tuple #[.slice a n c, .int .u16 er])∧IsB w' w'.heap.size a n c bs)∧Below W.heap.size W w')):
    Calls Tryd.prog 18 #[.agg (mcells c).toArray] w fun e w'=>(∃a n cp,e= .returned (.tuple #[.slice a n cp, .int .u16 (er)])∧IsB w' w'.heap.size a n cp (bs))∧Below w.heap.size w w':=by
  have z0:=(BC.start w (mcells c).toArray 36).at_ 0 _ rfl;have z3:=(BC.start w (mcells c).toArray 36).at_ 3 _ rfl;have z4:=(BC.start w (mcells c).toArray 36).at_ 4 _ rfl;have z5:=(BC.start w (mcells c).toArray 36).at_ 5 _ rfl;have z6:=(BC.start w (mcells c).toArray 36).at_ 6 _ rfl;have z7:=(BC.start w (mcells c).toArray 36).at_ 7 _ rfl;have z8:=(BC.start w (mcells c).toArray 36).at_ 8 _ rfl;have z9:=(BC.start w (mcells c).toArray 36).at_ 9 _ rfl;have z10:=(BC.start w (mcells c).toArray 36).at_ 10 _ rfl;have z11:=(BC.start w (mcells c).toArray 36).at_ 11 _ rfl
  have hB0:Below w.heap.size w (w.alloc (.cells (mcells c).toArray 36)):=(Below.refl _ _).alloc (Nat.le_refl _) _
  rw [ek] at z0
  go_enter Tryd.func18,Tryd.ntmps18
  go_wp2_with (go_at_call 32;(with_reducible refine (HE.out _ hB0).mono ?_);rintro e w1 ⟨⟨a1,n1,c1,rfl,hI⟩,hb1⟩)
  go_returns
  exact ⟨⟨a1,n1,c1,rfl,hI⟩,hB0.on hb1 hB0.size⟩
set_option maxHeartbeats 4000000 in
set_option maxRecDepth 100000 in
theorem tailM_5 (w:World) (c:MC) (ek:c.k=5) {er:Int} {bs:List UInt8} (HE:Hid (∀W,Below w.heap.size w W→Calls Tryd.prog 32 #[.agg #[.int .u8 c.e.k, .int .u32 c.e.src, .int .u32 c.e.seq, .int .u8 c.e.v.k, .int .i64 c.e.v.n, .string c.e.v.s, .slice c.e.v.la c.e.v.ll c.e.v.lc, .slice c.e.v.oa c.e.v.ol c.e.v.oc, .slice c.e.oa c.e.ol c.e.oc]] W fun e w'=>(∃a n c,e= .returned (.tuple #[.slice a n c, .int .u16 er])∧IsB w' w'.heap.size a n c bs)∧Below W.heap.size W w')):
    Calls Tryd.prog 18 #[.agg (mcells c).toArray] w fun e w'=>(∃a n cp,e= .returned (.tuple #[.slice a n cp, .int .u16 (er)])∧IsB w' w'.heap.size a n cp (bs))∧Below w.heap.size w w':=by
  have z0:=(BC.start w (mcells c).toArray 36).at_ 0 _ rfl;have z3:=(BC.start w (mcells c).toArray 36).at_ 3 _ rfl;have z4:=(BC.start w (mcells c).toArray 36).at_ 4 _ rfl;have z5:=(BC.start w (mcells c).toArray 36).at_ 5 _ rfl;have z6:=(BC.start w (mcells c).toArray 36).at_ 6 _ rfl;have z7:=(BC.start w (mcells c).toArray 36).at_ 7 _ rfl;have z8:=(BC.start w (mcells c).toArray 36).at_ 8 _ rfl;have z9:=(BC.start w (mcells c).toArray 36).at_ 9 _ rfl;have z10:=(BC.start w (mcells c).toArray 36).at_ 10 _ rfl;have z11:=(BC.start w (mcells c).toArray 36).at_ 11 _ rfl
  have hB0:Below w.heap.size w (w.alloc (.cells (mcells c).toArray 36)):=(Below.refl _ _).alloc (Nat.le_refl _) _
  rw [ek] at z0
  go_enter Tryd.func18,Tryd.ntmps18
  go_wp2_with (go_at_call 32;(with_reducible refine (HE.out _ hB0).mono ?_);rintro e w1 ⟨⟨a1,n1,c1,rfl,hI⟩,hb1⟩)
  go_returns
  exact ⟨⟨a1,n1,c1,rfl,hI⟩,hB0.on hb1 hB0.size⟩
set_option maxHeartbeats 4000000 in
set_option maxRecDepth 100000 in
theorem tailM_4n (w:World) (c:MC) (ek:c.k=4) (et:c.there=false):
    Calls Tryd.prog 18 #[.agg (mcells c).toArray] w fun e w'=>(∃a n cp,e= .returned (.tuple #[.slice a n cp, .int .u16 (0)])∧IsB w' w'.heap.size a n cp ([0]))∧Below w.heap.size w w':=by
  have z0:=(BC.start w (mcells c).toArray 36).at_ 0 _ rfl;have z15:=(BC.start w (mcells c).toArray 36).at_ 15 _ rfl
  have hB0:Below w.heap.size w (w.alloc (.cells (mcells c).toArray 36)):=(Below.refl _ _).alloc (Nat.le_refl _) _
  rw [ek] at z0;rw [et] at z15
  go_enter Tryd.func18,Tryd.ntmps18
  go_wp2_with (go_at_call 17;refine (layM_any 0 1 (by omega) _ w.heap.size hB0.size none 0 0 [] (OwnB.nil _ _) (by simp)).mono ?_;rintro e w1 ⟨⟨a1,n1,c1,rfl,hO⟩,hb1⟩)
  go_returns
  exact ⟨⟨a1,n1,c1,rfl,hO.isB⟩,hB0.trans hb1⟩
set_option maxHeartbeats 4000000 in
set_option maxRecDepth 100000 in
theorem tailM_4 (w:World) (c:MC) (ek:c.k=4) (et:c.there=true) {er:Int} {bs:List UInt8} (hl:bs.length≤70368744177664) (HE:Hid (∀W,Below w.heap.size w W→Calls Tryd.prog 33 #[.agg #[.int .u8 c.v.k, .int .i64 c.v.n, .string c.v.s, .slice c.v.la c.v.ll c.v.lc, .slice c.v.oa c.v.ol c.v.oc]] W fun e w'=>(∃a n c,e= .returned (.tuple #[.slice a n c, .int .u16 er])∧IsB w' w'.heap.size a n c bs)∧Below W.heap.size W w')):
    Calls Tryd.prog 18 #[.agg (mcells c).toArray] w fun e w'=>(∃a n cp,e= .returned (.tuple #[.slice a n cp, .int .u16 (er)])∧IsB w' w'.heap.size a n cp (1::bs))∧Below w.heap.size w w':=by
  have z0:=(BC.start w (mcells c).toArray 36).at_ 0 _ rfl;have z15:=(BC.start w (mcells c).toArray 36).at_ 15 _ rfl;have z16:=(BC.start w (mcells c).toArray 36).at_ 16 _ rfl;have z17:=(BC.start w (mcells c).toArray 36).at_ 17 _ rfl;have z18:=(BC.start w (mcells c).toArray 36).at_ 18 _ rfl;have z19:=(BC.start w (mcells c).toArray 36).at_ 19 _ rfl;have z20:=(BC.start w (mcells c).toArray 36).at_ 20 _ rfl
  have hB0:Below w.heap.size w (w.alloc (.cells (mcells c).toArray 36)):=(Below.refl _ _).alloc (Nat.le_refl _) _
  rw [ek] at z0;rw [et] at z15
  go_enter Tryd.func18,Tryd.ntmps18
  go_wp2_with (first|(go_at_call 33;(with_reducible refine (HE.out _ hB0).mono ?_);rintro e w1 ⟨⟨a1,n1,c1,rfl,hI⟩,hb1⟩;have hB1:=hB0.on hb1 hB0.size)|(go_at_call 17;refine (layM_any 1 1 (by omega) w1 w1.heap.size (Nat.le_refl _) none 0 0 [] (OwnB.nil _ _) (by simp)).mono ?_;rintro e w2 ⟨⟨a2,n2,c2,rfl,hO⟩,hb2⟩)|(at_builtin;refine wp_catB rfl (.tmp 33) (.tmp 34) rfl w1.heap.size w2.heap.size a2 n2 c2 _ a1 n1 c1 bs rfl rfl hO ((hI.keep hb2).more hb2.size) hb2.size (by simp [be_length];omega) ?_;intro a3 n3 c3 w3 hO3 hb3))
  go_returns
  exact ⟨⟨a3,n3,c3,rfl,hO3.isB⟩,(hB1.on hb2 hB1.size).trans (hb3.mono hB1.size)⟩
set_option maxHeartbeats 4000000 in
set_option maxRecDepth 100000 in
theorem tailM_6 (w:World) (c:MC) (ek:c.k=6) (S Q E:Nat) (hS:c.src=S) (hQ:c.seq=Q) (hE:c.err=E) (hS2:S<4294967296) (hQ2:Q<4294967296) (hE2:E<65536):
    Calls Tryd.prog 18 #[.agg (mcells c).toArray] w fun e w'=>(∃a n cp,e= .returned (.tuple #[.slice a n cp, .int .u16 (0)])∧IsB w' w'.heap.size a n cp (be S 4++be Q 4++be E 2))∧Below w.heap.size w w':=by
  have z0:=(BC.start w (mcells c).toArray 36).at_ 0 _ rfl;have z12:=(BC.start w (mcells c).toArray 36).at_ 12 _ rfl;have z13:=(BC.start w (mcells c).toArray 36).at_ 13 _ rfl;have z14:=(BC.start w (mcells c).toArray 36).at_ 14 _ rfl
  have hB0:Below w.heap.size w (w.alloc (.cells (mcells c).toArray 36)):=(Below.refl _ _).alloc (Nat.le_refl _) _
  rw [ek] at z0;rw [hS] at z12;rw [hQ] at z13;rw [hE] at z14
  have e1:IntKind.i64.wrap (S:Int)=(S:Int):=by rw [IntKind.wrap_i64];omega
  have e2:IntKind.i64.wrap (Q:Int)=(Q:Int):=by rw [IntKind.wrap_i64];omega
  have hlt:w.heap.size<(w.alloc (.cells (mcells c).toArray 36)).heap.size:=by simp
  have HFB:Hid (∀W,Below (w.alloc (.cells (mcells c).toArray 36)).heap.size (w.alloc (.cells (mcells c).toArray 36)).drew W→W.cell? ⟨w.heap.size,12,none⟩=some (.int .u32 S)∧W.cell? ⟨w.heap.size,13,none⟩=some (.int .u32 Q)∧W.cell? ⟨w.heap.size,14,none⟩=some (.int .u16 E)):=fun W hW=>⟨keep_cell hW z12 hlt,keep_cell hW z13 hlt,keep_cell hW z14 hlt⟩
  have hd:Below w.heap.size w (w.alloc (.cells (mcells c).toArray 36)).drew:=hB0.drew
  go_enter Tryd.func18,Tryd.ntmps18
  go_wp2_with fail
  clear z0 z12 z13 z14
  refine wp_region_noPanic ?_
  go_region_held_law (fun W=>W.cell? ⟨w.heap.size,12,none⟩=some (.int .u32 S)∧W.cell? ⟨w.heap.size,13,none⟩=some (.int .u32 Q)∧W.cell? ⟨w.heap.size,14,none⟩=some (.int .u16 E))
    ((refine HFB.out _ ?_;(first|(with_reducible exact Below.refl _ _)|(with_reducible exact hb1)|(with_reducible exact hb12))))
    (first
      |(go_at_call 17;(with_reducible refine (layM4 S (w.alloc (.cells (mcells c).toArray 36)).drew (w.alloc (.cells (mcells c).toArray 36)).heap.size (Nat.le_refl _) none 0 0 [] (OwnB.nil _ _) (by simp)).mono ?_);rintro e w1 ⟨⟨a1,n1,c1,rfl,hO1⟩,hb1⟩;have hz1:(w.alloc (.cells (mcells c).toArray 36)).heap.size≤w1.heap.size:=hb1.size)
      |(go_at_call 17;(with_reducible refine (layM4 Q w1 (w.alloc (.cells (mcells c).toArray 36)).heap.size hz1 a1 n1 c1 _ hO1 (by simp [be_length])).mono ?_);rintro e w2 ⟨⟨a2,n2,c2,rfl,hO2⟩,hb2⟩;have hb12:=hb1.trans hb2))
  all_goals
    obtain ⟨_,_,z14⟩:=HFB.out _ hb12
    have hz:(w.alloc (.cells (mcells c).toArray 36)).heap.size≤w2.heap.size:=hb12.size
    refine NoPanic.normal ?_
    go_wp2_with (go_at_call 17;(refine (layM2 E w2 (w.alloc (.cells (mcells c).toArray 36)).heap.size hz a2 n2 c2 _ hO2 (by simp [be_length])).mono ?_);rintro e w3 ⟨⟨a3,n3,c3,rfl,hO3⟩,hb3⟩)
    go_returns
    exact ⟨⟨a3,n3,c3,rfl,hO3.isB⟩,hd.trans ((hb12.trans hb3).mono (by simp))⟩
def encFs (l:List ByteArray):List UInt8:=l.flatMap fun s=>be s.size 4++s.data.toList
theorem encFs_take (l:List ByteArray) (k:Nat) (h:k<l.length):encFs (l.take (k+1))=encFs (l.take k)++(be l[k].size 4++l[k].data.toList):=by
  rw [encFs,encFs,List.take_succ_eq_append_getElem h,List.flatMap_append];simp
theorem encFs_le (l:List ByteArray) (k:Nat):(encFs (l.take k)).length≤(encFs l).length:=by
  have e:encFs l=encFs (l.take k)++encFs (l.drop k):=by rw [encFs,encFs,encFs, ←List.flatMap_append,List.take_append_drop]
  rw [e,List.length_append];omega
set_option maxHeartbeats 4000000 in
set_option maxRecDepth 100000 in
theorem tailM_1 (w:World) (c:MC) (ek:c.k=1) (l:List ByteArray) (hf:IsStrs w w.heap.size l c.fa c.fl c.fc) (hsz:(encFs l).length≤70368744177664):
    Calls Tryd.prog 18 #[.agg (mcells c).toArray] w fun e w'=>(∃a n cp,e= .returned (.tuple #[.slice a n cp, .int .u16 (0)])∧IsB w' w'.heap.size a n cp (be l.length 1++encFs l))∧Below w.heap.size w w':=by
  have z0:=(BC.start w (mcells c).toArray 36).at_ 0 _ rfl;have z21:=(BC.start w (mcells c).toArray 36).at_ 21 _ rfl
  have hB0:Below w.heap.size w (w.alloc (.cells (mcells c).toArray 36)):=(Below.refl _ _).alloc (Nat.le_refl _) _
  rw [ek] at z0
  have k1:=hf.max;have k2:=hf.few
  have HLn:=Lib.hid hf.len
  obtain ⟨fa,hfa⟩:∃fa,c.fa=fa:=⟨_,rfl⟩
  rw [hfa] at hf z21
  have HF:=Lib.hid hf
  have hlt:w.heap.size<(w.alloc (.cells (mcells c).toArray 36)).heap.size:=by simp
  have hle:=encFs_le l
  clear hf hfa
  go_enter Tryd.func18,Tryd.ntmps18
  go_wp2_with (go_at_call 17;(with_reducible refine (layM1 c.fl (w.alloc (.cells (mcells c).toArray 36)) (w.alloc (.cells (mcells c).toArray 36)).heap.size (Nat.le_refl _) none 0 0 [] (OwnB.nil _ _) (by simp)).mono ?_);rintro e w1 ⟨⟨a1,n1,c1,rfl,hO⟩,hb1⟩;have hB1:=hB0.on hb1 hB0.size;have z21:=keep_cell hb1 z21 hlt)
  go_loopw [4,63] (fun u i wr=>∃(k:Nat) (a:Option Addr) (m cp:Nat),k≤c.fl∧i= .int .i64 k∧u= .slice a m cp∧OwnB wr w.heap.size a m cp (be c.fl 1++encFs (l.take k))∧Below w.heap.size w wr) (fun _ i _=>c.fl - (intOf i).toNat)
  case atStart=>exact ⟨0,a1,n1,c1,Nat.zero_le _,rfl,rfl,by simpa [encFs] using (OwnB.lower hO (by simp)),hB1⟩
  case round=>
    clear hO hB1 hb1 z21 z0
    obtain ⟨k,a,m,cp,hk,rfl,rfl,hO,hB⟩:=hrel
    by_cases hlk:k<c.fl
    · obtain ⟨b,o,kl,rfl,hb,g1,gs⟩:=HF.out.get hlk
      have g1:=keep_cell hB g1 hb
      have h1:=encFs_take l k kl
      have h2:=hle (k+1)
      have h3:=congrArg List.length h1
      simp only [List.length_append,be_length,Array.length_toList] at h3
      have h5:(l[k]'kl).data.size=(l[k]'kl).size:=rfl
      rw [h5] at h3
      have HT:=Lib.hid h1
      have HO:=Lib.hid hO
      have HB:=Lib.hid hB
      have HS:Hid ((be c.fl 1++encFs (l.take k)).length+4+l[k].size≤140737488355328):=by
        show _≤_
        rw [List.length_append,be_length];omega
      have hp2:((l[k]'kl).size:Int)≤140737488355328:=by omega
      clear h1 h2 h3 h5 hO hB hle
      go_wp2_with (first|(go_at_call 17;(with_reducible refine (layM4 l[k].size wr w.heap.size HB.out.size a m cp _ HO.out (by have:=HS.out;omega)).mono ?_);rintro e w2 ⟨⟨a2,n2,c2,rfl,hO2⟩,hb2⟩;have hz2:=HB.out.size;have hz3:=hb2.size)|(at_builtin;refine wp_catS rfl (.tmp 70) (.tmp 71) rfl w.heap.size a2 n2 c2 _ l[k] rfl rfl hO2 (by omega) (by have:=HS.out;rw [List.length_append,be_length];omega) ?_;intro a3 n3 c3 w3 hO3 hb3))
      go_roundw
      case rel=>exact ⟨k+1,a3,n3,c3,by omega,by go_num,rfl,by rw [HT.out];simpa [List.append_assoc] using hO3,(HB.out.trans hb2).trans hb3⟩
      case measure=>simp [intOf];omega
    · have hq:l.take k=l:=List.take_of_length_le (by have:=HLn.out;omega)
      rw [hq] at hO
      go_wp2_with fail
      go_returns
      exact ⟨⟨a,m,cp,rfl,by rw [←HLn.out];exact hO.isB⟩,hB⟩
end Go.Proofs.YthceefjafklcmaaDoor
namespace Go.Proofs.YthceefjafklcmaaDoor
open Go.RowKit
theorem step_catS {ops:Array Oper} {o:Oper} {a:Act} {K:Act→World→Prop} {Q:Exit→Act→World→Prop} {E:Prop} {w:World} (hgd:o.guard=none) (s x:Operand)
    (ho:o.op= .call { callee:= .builtin .append,args:= #[s,x],argTypes:= #[22,9] }) (B:Nat) (a0:Option Addr) (n0 c0:Nat) (bs:List UInt8) (t:ByteArray)
    (hs:a.eval s= .slice a0 n0 c0) (hx:a.eval x= .string t) (h0:OwnB w B a0 n0 c0 bs) (hB:B≤w.heap.size) (hsz:bs.length+t.size≤140737488355328)
    (h:∀a' n' c' w',OwnB w' B a' n' c' (bs++t.data.toList)→Below B w w'→K (a.put o.dst (.slice a' n' c')) w'):if Region.wanted o (yielded ops a.tmps)=true then Oper.wp Tryd.prog o a w K Q else E:=by
  rw [if_pos (by simp [Region.wanted,hgd])]
  obtain ⟨i0,hi0,hz0,hz1,hz2⟩:=info_parts ginfo8
  obtain ⟨e0,g0⟩:=h0
  have hlt:=g0.lt
  have ht:t.data.toList.length=t.size:=Array.length_toList
  obtain ⟨v',w',hr,h2,h3,_⟩:=Lib.run_append_own_string (P:=Tryd.prog) w B _ _ o.type 5 i0 Tryd.underlying22 Tryd.underlying9 hi0 hz0 hz1 hz2 _ n0 _ g0 t (by unfold maxLen;omega) (by omega) hB
  unfold Oper.wp execOp
  simp only [ho,resolve,invoke,builtin,Sem.run_bind,Sem.run_pure,Result.andThen_ok,List.map_toArray,List.map_cons,List.map_nil,hs,hx,hr]
  obtain ⟨ao,c,rfl⟩:=owns_slice h2
  rw [outs_str] at h2
  exact h _ _ _ _ ⟨by rw [List.length_append,ht,e0],h2⟩ (grown_below h3 (fun k hk=>(hlt k hk).1) hB)
theorem OwnB.one (w:World) (B:Nat) (hB:B≤w.heap.size) (b:UInt8) {k:Int} (h:(b.toNat:Int)=k):OwnB (w.alloc (.cells #[.int .u8 k] 5)) B (some ⟨w.heap.size,0,none⟩) 1 1 [b] :=by
  subst h
  exact ⟨rfl,by simp [outs], .inr ⟨w.heap.size,1, #[.int .u8 (b.toNat:Int)],rfl,hB,heap_alloc_new w _,Nat.le_refl _,by unfold maxLen;omega,rfl,by simp [outs]⟩⟩
def nbB (nb:Bool) (n:Nat):List UInt8:=match nb with
  |true=>be n 4
  |false=> []
def encOut (k:UInt8) (doc:ByteArray) (nb:Bool) (n:Nat) (sd:Bool) (er:Int) (bs:List UInt8):Int×List UInt8:=
  if sd=true then
    (if er=0 then
      (if 60000<(([k] ++be doc.size 1++doc.data.toList++nbB nb n)++bs).length then (3, []) else (0,([k] ++be doc.size 1++doc.data.toList++nbB nb n)++bs))
     else (er, []))
  else (1, [])
structure EncH (w:World) (c:MC) (sd:Bool) (er:Int) (bs:List UInt8):Prop where
  HS:Hid (∀W,Below w.heap.size w W→Calls Tryd.prog 16 #[.agg (mcells c).toArray] W fun e w'=>e= .returned (.bool sd)∧Below W.heap.size W w')
  HT:sd=true→Hid (∀W,Below w.heap.size w W→Calls Tryd.prog 18 #[.agg (mcells c).toArray] W fun e w'=>(∃a n cp,e= .returned (.tuple #[.slice a n cp, .int .u16 er])∧IsB w' w'.heap.size a n cp bs)∧Below W.heap.size W w')
set_option maxHeartbeats 4000000 in
set_option maxRecDepth 100000 in
theorem encM_no (w:World) (c:MC) {er:Int} {bs:List UInt8} (H:EncH w c false er bs):
    Calls Tryd.prog 7 #[.agg (mcells c).toArray] w fun e w'=>e= .returned (.tuple #[.slice none 0 0, .int .u16 1])∧Below w.heap.size w w':=by
  have HS:=H.HS
  have hB0:Below w.heap.size w (w.alloc (.cells (mcells c).toArray 36)):=(Below.refl _ _).alloc (Nat.le_refl _) _
  have bx:=BC.start w (mcells c).toArray 36
  clear H
  go_enter Tryd.func7,Tryd.ntmps7
  go_wp2_with (first|(refine wp_loadM rfl _ rfl ?_;refine ⟨w.heap.size,mcells c,rfl,rfl,bx, ?_⟩)|(go_at_call 16;(with_reducible refine (HS.out _ hB0).mono ?_);rintro e w1 ⟨rfl,hb1⟩))
  go_returns
  exact ⟨rfl,hB0.on hb1 hB0.size⟩
set_option maxHeartbeats 8000000 in
set_option maxRecDepth 100000 in
theorem encM_yes (w:World) (c:MC) {er:Int} {bs:List UInt8} (H:EncH w c true er bs) (k:UInt8) (hk:(k.toNat:Int)=c.k) (N:Nat) (hN:c.n+1=N) (hN2:N≤5001) (nb:Bool) (hnb:numberedB c.k=nb) (hd:c.doc.size≤20) (hbs:bs.length≤70368744177665):
    Calls Tryd.prog 7 #[.agg (mcells c).toArray] w fun e w'=>(∃a n cp,e= .returned (.tuple #[.slice a n cp, .int .u16 (encOut k c.doc nb N true er bs).1])∧IsB w' w'.heap.size a n cp (encOut k c.doc nb N true er bs).2)∧Below w.heap.size w w':=by
  have HS:=H.HS
  have HT:=H.HT rfl
  have HK:=Lib.hid hk
  have hB0:Below w.heap.size w (w.alloc (.cells (mcells c).toArray 36)):=(Below.refl _ _).alloc (Nat.le_refl _) _
  have bx:=BC.start w (mcells c).toArray 36
  have hlt:w.heap.size<(w.alloc (.cells (mcells c).toArray 36)).heap.size:=by simp
  have HNB:Hid (∀W,Calls Tryd.prog 11 #[.int .u8 c.k] W fun e w'=>e= .returned (.bool nb)∧w'=W):=fun W=>by rw [←hnb];exact numbered_any c.k W
  have HN:=Lib.hid hN
  have e1:IntKind.i64.wrap (c.n+1)=(N:Int):=by rw [IntKind.wrap_i64];omega
  obtain ⟨R,hR⟩:∃R,encOut k c.doc nb N true er bs=R:=⟨_,rfl⟩
  rw [hR]
  have HR:=Lib.hid hR
  have hdd:((c.doc.size:Nat):Int)≤20:=by omega
  clear H hR hk hN hnb
  go_enter Tryd.func7,Tryd.ntmps7
  go_wp2_with (first|(refine wp_loadM rfl _ rfl ?_;refine ⟨w.heap.size,mcells c,rfl,rfl,bx, ?_⟩)|(go_at_call 16;(with_reducible refine (HS.out _ hB0).mono ?_);rintro e w1 ⟨rfl,hb1⟩))
  replace bx:=bx.keep hb1 bx.lt
  have hB1:=hB0.on hb1 hB0.size
  have hw1:w.heap.size<w1.heap.size:=bx.lt
  have HFB:Hid (∀W,Below w1.heap.size w1.drew W→W.cell? ⟨w.heap.size,0,none⟩=some (.int .u8 c.k)∧W.cell? ⟨w.heap.size,1,none⟩=some (.string c.doc)):=fun W hW=>⟨keep_cell hW (bx.at_ 0 _ rfl) hw1,keep_cell hW (bx.at_ 1 _ rfl) hw1⟩
  have HO1:Hid (OwnB (w1.alloc (.cells #[.int .u8 c.k] 5)).drew w1.heap.size (some ⟨w1.heap.size,0,none⟩) 1 1 [k]):=OwnB.one w1.drew w1.heap.size (Nat.le_refl _) k HK.out
  have HBA:Hid (Below w1.heap.size w1.drew (w1.alloc (.cells #[.int .u8 c.k] 5)).drew):=(Below.refl w1.drew.heap.size w1.drew).alloc (Nat.le_refl _) (.cells #[.int .u8 c.k] 5)
  have hz0:w1.heap.size≤(w1.alloc (.cells #[.int .u8 c.k] 5)).drew.heap.size:=HBA.out.size
  refine wp_region_noPanic ?_
  go_region_held_law (fun W=>W.cell? ⟨w.heap.size,0,none⟩=some (.int .u8 c.k)∧W.cell? ⟨w.heap.size,1,none⟩=some (.string c.doc))
    ((refine HFB.out _ ?_;(first|(with_reducible exact Below.refl _ _)|(with_reducible exact HBA.out)|(with_reducible exact hb12)|(with_reducible exact hb13))))
    (first
      |(go_at_call 17;(with_reducible refine (layM1 c.doc.size (w1.alloc (.cells #[.int .u8 c.k] 5)).drew w1.heap.size hz0 (some ⟨w1.heap.size,0,none⟩) 1 1 [k] HO1.out (by simp)).mono ?_);rintro e w2 ⟨⟨a2,n2,c2,rfl,hO2⟩,hb2⟩;have hb12:=HBA.out.trans hb2;have hz2:w1.heap.size≤w2.heap.size:=hb12.size)
      |(refine step_catS rfl (.tmp 16) (.tmp 18) rfl w1.heap.size a2 n2 c2 _ c.doc rfl rfl hO2 hz2 (by simp [be_length];omega) ?_;intro a3 n3 c3 w3 hO3 hb3;have hb13:=hb12.trans hb3))
  all_goals
    refine NoPanic.normal ?_
    have by3:=(bc_drewM bx).keep hb13 hw1
    have hB3:Below w.heap.size w w3:=hB1.drew.trans (hb13.mono hB1.size)
    have hz13:w1.heap.size≤w3.heap.size:=hb13.size
    clear hb1 hb2 hb3 hb12 hb13 hO2 HO1 HBA HFB bx hz0 hz2
    have y0:=by3.at_ 0 _ rfl;have y2:=by3.at_ 2 _ rfl
    have hz3:w1.heap.size≤w3.heap.size:=hz13
    cases nb with
    | false =>
      rw [show ([k] ++be c.doc.size 1++c.doc.data.toList:List UInt8)=([k] ++be c.doc.size 1++c.doc.data.toList++nbB false N) by simp [nbB]] at hO3
      have hpre:Hid (([k] ++be c.doc.size 1++c.doc.data.toList++nbB false N).length≤30):=by
        show _≤_
        simp [be_length,nbB]
        have h5:c.doc.data.size=c.doc.size:=rfl
        omega
      obtain ⟨P,hP⟩:∃P,P=([k] ++be c.doc.size 1++c.doc.data.toList++nbB false N):=⟨_,rfl⟩
      rw [←hP] at hO3 hpre
      have HP:=Lib.hid hP
      clear hP
      by_cases he:er=0
      · subst he
        go_wp2_with (first|(go_at_call 11;(with_reducible refine (HNB.out _).mono ?_);rintro e w0 ⟨rfl,hw0⟩;obtain rfl:=hw0.symm)|(refine wp_loadM rfl _ rfl ?_;refine ⟨w.heap.size,mcells c,rfl,rfl,by3, ?_⟩)|(go_at_call 18;(with_reducible refine (HT.out _ hB3).mono ?_);rintro e w5 ⟨⟨a5,n5,c5,rfl,hI5⟩,hb5⟩;have hO5:=OwnB.below hO3 hb5;have hB5:=hB3.on hb5 hB3.size;have hz5:w1.heap.size≤w5.heap.size:=Nat.le_trans hz3 hb5.size)|(at_builtin;refine wp_catB rfl (.tmp 36) (.tmp 37) rfl w1.heap.size w5.heap.size a3 n3 c3 _ a5 n5 c5 bs rfl rfl hO5 hI5 hz5 (by have:=hpre.out;omega) ?_;intro a6 n6 c6 w6 hO6 hb6;have hn6:=hO6.1;have HN6:=Lib.hid hn6;clear hn6))
        · go_returns
          have hR2:encOut k c.doc false N true 0 bs=(3, []):=by
            rw [encOut,if_pos rfl,if_pos rfl, ←HP.out,if_pos (by have:=HN6.out;omega)]
          rw [←HR.out,hR2]
          exact ⟨⟨none,0,0,rfl, .nil _ _⟩,hB5.trans (hb6.mono hB1.size)⟩
        · go_returns
          have hR2:encOut k c.doc false N true 0 bs=(0,P++bs):=by
            rw [encOut,if_pos rfl,if_pos rfl, ←HP.out,if_neg (by have:=HN6.out;omega)]
          rw [←HR.out,hR2]
          exact ⟨⟨a6,n6,c6,rfl,hO6.isB⟩,hB5.trans (hb6.mono hB1.size)⟩
      · have fe:(er !=0)=true:=by simp [he]
        have HE:=Lib.hid he
        clear he
        go_wp2_with (first|(go_at_call 11;(with_reducible refine (HNB.out _).mono ?_);rintro e w0 ⟨rfl,hw0⟩;obtain rfl:=hw0.symm)|(refine wp_loadM rfl _ rfl ?_;refine ⟨w.heap.size,mcells c,rfl,rfl,by3, ?_⟩)|(go_at_call 18;(with_reducible refine (HT.out _ hB3).mono ?_);rintro e w5 ⟨⟨a5,n5,c5,rfl,hI5⟩,hb5⟩;have hB5:=hB3.on hb5 hB3.size))
        go_returns
        have hR2:encOut k c.doc false N true er bs=(er, []):=by
          rw [encOut,if_pos rfl,if_neg HE.out]
        rw [←HR.out,hR2]
        exact ⟨⟨none,0,0,rfl, .nil _ _⟩,hB5⟩
    | true =>
      go_wp2_with (first|(go_at_call 11;(with_reducible refine (HNB.out _).mono ?_);rintro e w0 ⟨rfl,hw0⟩;obtain rfl:=hw0.symm)|(go_at_call 17;(with_reducible refine (layM4 N w3 w1.heap.size hz3 a3 n3 c3 _ hO3 (by simp [be_length];have h5:c.doc.data.size=c.doc.size:=rfl;omega)).mono ?_);rintro e w4 ⟨⟨a4,n4,c4,rfl,hO4⟩,hb4⟩;have by4:=by3.keep hb4 hw1;have hB4:Below w.heap.size w w4:=hB3.trans (hb4.mono hB1.size);have hz4:w1.heap.size≤w4.heap.size:=Nat.le_trans hz3 hb4.size)|(refine wp_loadM rfl _ rfl ?_;refine ⟨w.heap.size,mcells c,rfl,rfl,by4, ?_⟩))
      rw [show ([k] ++be c.doc.size 1++c.doc.data.toList++be N 4:List UInt8)=([k] ++be c.doc.size 1++c.doc.data.toList++nbB true N) by simp [nbB]] at hO4
      have hpre:Hid (([k] ++be c.doc.size 1++c.doc.data.toList++nbB true N).length≤30):=by
        show _≤_
        simp [be_length,nbB]
        have h5:c.doc.data.size=c.doc.size:=rfl
        omega
      obtain ⟨P,hP⟩:∃P,P=([k] ++be c.doc.size 1++c.doc.data.toList++nbB true N):=⟨_,rfl⟩
      rw [←hP] at hO4 hpre
      have HP:=Lib.hid hP
      clear hP
      by_cases he:er=0
      · subst he
        go_wp2_with (first|(refine wp_loadM rfl _ rfl ?_;refine ⟨w.heap.size,mcells c,rfl,rfl,by4, ?_⟩)|(go_at_call 18;(with_reducible refine (HT.out _ hB4).mono ?_);rintro e w5 ⟨⟨a5,n5,c5,rfl,hI5⟩,hb5⟩;have hO5:=OwnB.below hO4 hb5;have hB5:=hB4.on hb5 hB4.size;have hz5:w1.heap.size≤w5.heap.size:=Nat.le_trans hz4 hb5.size)|(at_builtin;refine wp_catB rfl (.tmp 36) (.tmp 37) rfl w1.heap.size w5.heap.size a4 n4 c4 _ a5 n5 c5 bs rfl rfl hO5 hI5 hz5 (by have:=hpre.out;omega) ?_;intro a6 n6 c6 w6 hO6 hb6;have hn6:=hO6.1;have HN6:=Lib.hid hn6;clear hn6))
        · go_returns
          have hR2:encOut k c.doc true N true 0 bs=(3, []):=by
            rw [encOut,if_pos rfl,if_pos rfl, ←HP.out,if_pos (by have:=HN6.out;omega)]
          rw [←HR.out,hR2]
          exact ⟨⟨none,0,0,rfl, .nil _ _⟩,hB5.trans (hb6.mono hB1.size)⟩
        · go_returns
          have hR2:encOut k c.doc true N true 0 bs=(0,P++bs):=by
            rw [encOut,if_pos rfl,if_pos rfl, ←HP.out,if_neg (by have:=HN6.out;omega)]
          rw [←HR.out,hR2]
          exact ⟨⟨a6,n6,c6,rfl,hO6.isB⟩,hB5.trans (hb6.mono hB1.size)⟩
      · have fe:(er !=0)=true:=by simp [he]
        have HE:=Lib.hid he
        clear he
        go_wp2_with (first|(refine wp_loadM rfl _ rfl ?_;refine ⟨w.heap.size,mcells c,rfl,rfl,by4, ?_⟩)|(go_at_call 18;(with_reducible refine (HT.out _ hB4).mono ?_);rintro e w5 ⟨⟨a5,n5,c5,rfl,hI5⟩,hb5⟩;have hB5:=hB4.on hb5 hB4.size))
        go_returns
        have hR2:encOut k c.doc true N true er bs=(er, []):=by
          rw [encOut,if_pos rfl,if_neg HE.out]
        rw [←HR.out,hR2]
        exact ⟨⟨none,0,0,rfl, .nil _ _⟩,hB5⟩
end Go.Proofs.YthceefjafklcmaaDoor
namespace Go.Proofs.YthceefjafklcmaaDoor
open Go.RowKit
noncomputable def tailM (m:Ms):Int×List UInt8:=
  if m.k=1 then (0,be m.f.length 1++encFs m.f)
  else if m.k=3 then (outN (enSound m.e) (encE m.e),outB (enSound m.e) (encE m.e))
  else if m.k=5 then (outN (enSound m.e) (encE m.e),outB (enSound m.e) (encE m.e))
  else if m.k=4 then (if m.there=true then (outN (lightB m.v) (encV m.v),1::outB (lightB m.v) (encV m.v)) else (0, [0]))
  else if m.k=6 then (0,be m.src.toNat 4++be m.seq.toNat 4++be m.err.toNat 2)
  else (0, [])
structure Ms.Fits (m:Ms):Prop where
  small:m.e.small
  e:(encE m.e).length≤70368744177664
  v:(encV m.v).length≤70368744177664
  wt:m.v.weight≤4611686018427387904
  f:(encFs m.f).length≤70368744177664
theorem outB_le (sd:Bool) (l:List UInt8):(outB sd l).length≤l.length:=by
  unfold outB
  split
  · split
    · exact Nat.zero_le _
    · exact Nat.le_refl _
  · exact Nat.zero_le _
set_option maxHeartbeats 4000000 in
set_option maxRecDepth 100000 in
theorem tailM_any (m:Ms) (w:World) (hT:Tabs w) (c:MC) (hm:IsMsg w w.heap.size m c) (hf:m.Fits) (h1:1≤m.k) (h6:m.k≤6):
    Calls Tryd.prog 18 #[.agg (mcells c).toArray] w fun e w'=>(∃a n cp,e= .returned (.tuple #[.slice a n cp, .int .u16 (tailM m).1])∧IsB w' w'.heap.size a n cp (tailM m).2)∧Below w.heap.size w w':=by
  obtain ⟨s1,s2,s3,s4,s5⟩:=hf
  cases hm with
  |mk c e v f hb he hv hff=>
  dsimp only at s1 s2 s3 s4 s5 h1 h6
  have HE:Hid (∀W,Below w.heap.size w W→Calls Tryd.prog 32 #[.agg #[.int .u8 c.e.k, .int .u32 c.e.src, .int .u32 c.e.seq, .int .u8 c.e.v.k, .int .i64 c.e.v.n, .string c.e.v.s, .slice c.e.v.la c.e.v.ll c.e.v.lc, .slice c.e.v.oa c.e.v.ol c.e.v.oc, .slice c.e.oa c.e.ol c.e.oc]] W fun e' w'=>(∃a n c,e'= .returned (.tuple #[.slice a n c, .int .u16 (outN (enSound e) (encE e))])∧IsB w' w'.heap.size a n c (outB (enSound e) (encE e)))∧Below W.heap.size W w'):=fun W hW=>
    encode_e (enSound e) W c.e e (he.later_ hW) (fun W' hW'=>enSound_any e W' ((hT.below hW).below hW') c.e ((he.later_ hW).later_ hW') s1) s2
  have HV:Hid (∀W,Below w.heap.size w W→Calls Tryd.prog 33 #[.agg #[.int .u8 c.v.k, .int .i64 c.v.n, .string c.v.s, .slice c.v.la c.v.ll c.v.lc, .slice c.v.oa c.v.ol c.v.oc]] W fun e' w'=>(∃a n c,e'= .returned (.tuple #[.slice a n c, .int .u16 (outN (lightB v) (encV v))])∧IsB w' w'.heap.size a n c (outB (lightB v) (encV v)))∧Below W.heap.size W w'):=fun W hW=>
    value_of (lightB v) W c.v.k c.v.n c.v.s c.v.la c.v.ll c.v.lc c.v.oa c.v.ol c.v.oc v (hv.later_ hW) (fun W' hW'=>light_any v W' ((hT.below hW).below hW') c.v ((hv.later_ hW).later_ hW') s4) s3
  by_cases e1:c.k=1
  · have h:=tailM_1 w c e1 f hff s5
    rw [tailM,if_pos e1];exact h
  by_cases e3:c.k=3
  · have h:=tailM_3 w c e3 HE
    rw [tailM,if_neg e1,if_pos e3];exact h
  by_cases e5:c.k=5
  · have h:=tailM_5 w c e5 HE
    rw [tailM,if_neg e1,if_neg e3,if_pos e5];exact h
  by_cases e4:c.k=4
  · rw [tailM,if_neg e1,if_neg e3,if_neg e5,if_pos e4]
    cases ht:c.there with
    |true=>rw [if_pos rfl];exact tailM_4 w c e4 ht (Nat.le_trans (outB_le _ _) s3) HV
    |false=>rw [if_neg (by simp)];exact tailM_4n w c e4 ht
  by_cases e6:c.k=6
  · have q0:=hb.s0;have q1:=hb.s1;have q2:=hb.q0;have q3:=hb.q1;have q4:=hb.e0;have q5:=hb.e1
    rw [tailM,if_neg e1,if_neg e3,if_neg e5,if_neg e4,if_pos e6]
    exact tailM_6 w c e6 c.src.toNat c.seq.toNat c.err.toNat (by omega) (by omega) (by omega) (by omega) (by omega) (by omega)
  · rw [tailM,if_neg e1,if_neg e3,if_neg e5,if_neg e4,if_neg e6]
    exact tailM_2 w c (by omega)
noncomputable def encMsg (m:Ms):Int×List UInt8:=encOut (UInt8.ofNat m.k.toNat) m.doc (numberedB m.k) (m.n+1).toNat (msgSound m) (tailM m).1 (tailM m).2
theorem msgSound_bounds {m:Ms} (h:msgSound m=true):1≤m.k∧m.k≤6∧m.doc.size≤20∧ -1≤m.n∧m.n≤5000:=by
  simp only [msgSound,sndM,Bool.and_eq_true,decide_eq_true_eq] at h
  obtain ⟨⟨h1,h2⟩,_,h3,h4,h5,_⟩:=h
  refine ⟨h1,h2,h3, ?_, ?_⟩
  · split at h4<;>omega
  · split at h5<;>omega
theorem tailM_len (m:Ms) (hf:m.Fits):(tailM m).2.length≤70368744177665:=by
  obtain ⟨s1,s2,s3,s4,s5⟩:=hf
  have h1:=outB_le (enSound m.e) (encE m.e)
  have h2:=outB_le (lightB m.v) (encV m.v)
  unfold tailM
  repeat' split
  all_goals first
    |(simp only [List.length_append,List.length_cons,be_length,List.length_nil];omega)
    |(simp only [];omega)
theorem encMsg_any (m:Ms) (w:World) (hT:Tabs w) (c:MC) (hm:IsMsg w w.heap.size m c) (hf:m.Fits):
    Calls Tryd.prog 7 #[.agg (mcells c).toArray] w fun e w'=>(∃a n cp,e= .returned (.tuple #[.slice a n cp, .int .u16 (encMsg m).1])∧IsB w' w'.heap.size a n cp (encMsg m).2)∧Below w.heap.size w w':=by
  have HS:Hid (∀W,Below w.heap.size w W→Calls Tryd.prog 16 #[.agg (mcells c).toArray] W fun e w'=>e= .returned (.bool (msgSound m))∧Below W.heap.size W w'):=fun W hW=>msgSound_any m W (hT.below hW) c (hm.later_ hW) hf.small
  cases hs:msgSound m with
  | false=>
    rw [hs] at HS
    refine (encM_no w c (er:=0) (bs:= []) ⟨HS,fun h=>by cases h⟩).mono fun e w' ⟨h1,h2⟩=>⟨⟨none,0,0, ?_, ?_⟩,h2⟩
    · rw [h1,encMsg,hs];rfl
    · rw [encMsg,hs];exact .nil _ _
  | true=>
    rw [hs] at HS
    obtain ⟨b1,b2,b3,b4,b5⟩:=msgSound_bounds hs
    have hl:=tailM_len m hf
    have HT:Hid (∀W,Below w.heap.size w W→Calls Tryd.prog 18 #[.agg (mcells c).toArray] W fun e w'=>(∃a n cp,e= .returned (.tuple #[.slice a n cp, .int .u16 (tailM m).1])∧IsB w' w'.heap.size a n cp (tailM m).2)∧Below W.heap.size W w'):=fun W hW=>tailM_any m W (hT.below hW) c (hm.later_ hW) hf b1 b2
    have h:=encM_yes w c (er:=(tailM m).1) (bs:=(tailM m).2) ⟨HS,fun _=>HT⟩ (UInt8.ofNat m.k.toNat)
    rw [encMsg,hs]
    cases hm with
    | mk c e v f hb he hv hff=>
      dsimp only at b1 b2 b3 b4 b5 h ⊢
      exact h (by simp;omega) (c.n+1).toNat (by omega) (by omega) (numberedB c.k) rfl b3 hl
end Go.Proofs.YthceefjafklcmaaDoor
namespace Go.Proofs.YthceefjafklcmaaDoor
open Go.RowKit
structure RdM (w:World) (rb:Nat) (bs:List UInt8) (sh:Bool):Prop where
  at_:∃a n c,w.cell? ⟨rb,0,none⟩=some (.slice a n c)∧IsB w rb a n c bs
  short:w.cell? ⟨rb,1,none⟩=some (.bool sh)
  f0:w.frozen? ⟨rb,0,none⟩=false
  f1:w.frozen? ⟨rb,1,none⟩=false
theorem RdM.lt {w:World} {rb:Nat} {bs:List UInt8} {sh:Bool} (h:RdM w rb bs sh):rb<w.heap.size:=World.block_lt_of_cell? w _ h.short
theorem RdM.of_below {w w':World} {rb:Nat} {bs:List UInt8} {sh:Bool} (h:RdM w rb bs sh) (hb:Below w.heap.size w w'):RdM w' rb bs sh:=by
  have hlt:=h.lt
  obtain ⟨⟨a,n,c,h0,hI⟩,h1,h2,h3⟩:=h
  exact ⟨⟨a,n,c,keep_cell hb h0 hlt,hI.keep (hb.mono (by omega))⟩,keep_cell hb h1 hlt,(hb.frozen (p:=⟨rb,0,none⟩) hlt).trans h2,(hb.frozen (p:=⟨rb,1,none⟩) hlt).trans h3⟩
theorem RdM.set {w:World} {rb:Nat} {bs bs':List UInt8} {sh:Bool} (h:RdM w rb bs sh) {a:Option Addr} {n c:Nat} (hI:IsB w rb a n c bs'):RdM (w.setCell ⟨rb,0,none⟩ (.slice a n c)) rb bs' sh∧RStep w (w.setCell ⟨rb,0,none⟩ (.slice a n c)) rb:=by
  obtain ⟨⟨a0,n0,c0,h0,_⟩,h1,h2,h3⟩:=h
  have hb:RStep w (w.setCell ⟨rb,0,none⟩ (.slice a n c)) rb:=⟨rfl,rfl,rfl,by simp,fun k hk hr=>heap_setCell_other _ _ _ _ hr⟩
  refine ⟨⟨⟨a,n,c,World.cell?_setCell_same _ _ _ h0,hI.keep (hb.below (Nat.le_of_lt (World.block_lt_of_cell? w _ h1)))⟩, ?_,by simpa using h2,by simpa using h3⟩,hb⟩
  rw [World.cell?_setCell_other]
  · exact h1
  · simp
theorem RdM.setShort {w:World} {rb:Nat} {bs:List UInt8} {sh sh':Bool} (h:RdM w rb bs sh):RdM (w.setCell ⟨rb,1,none⟩ (.bool sh')) rb bs sh'∧RStep w (w.setCell ⟨rb,1,none⟩ (.bool sh')) rb:=by
  obtain ⟨⟨a0,n0,c0,h0,hI⟩,h1,h2,h3⟩:=h
  have hb:RStep w (w.setCell ⟨rb,1,none⟩ (.bool sh')) rb:=⟨rfl,rfl,rfl,by simp,fun k hk hr=>heap_setCell_other _ _ _ _ hr⟩
  refine ⟨⟨⟨a0,n0,c0, ?_,hI.keep (hb.below (Nat.le_of_lt (World.block_lt_of_cell? w _ h1)))⟩,World.cell?_setCell_same _ _ _ h1,by simpa using h2,by simpa using h3⟩,hb⟩
  rw [World.cell?_setCell_other]
  · exact h0
  · simp
def cutP (k:Nat) (s:List UInt8×Bool):List UInt8×(List UInt8×Bool):=if s.1.length<k then ([],([],true)) else (s.1.take k,(s.1.drop k,s.2))
set_option maxHeartbeats 2000000 in
set_option maxRecDepth 100000 in
theorem cutM_any (w:World) (rb:Nat) (s:List UInt8×Bool) (h:RdM w rb s.1 s.2) (k:Nat):
    Calls Tryd.prog 21 #[.pointer (some ⟨rb,0,none⟩), .int .i64 k] w fun e w'=>(∃a n c,e= .returned (.slice a n c)∧IsB w' rb a n c (cutP k s).1)∧RdM w' rb (cutP k s).2.1 (cutP k s).2.2∧RStep w w' rb:=by
  obtain ⟨bs,sh⟩:=s
  dsimp only at h
  have H:=Lib.hid h
  obtain ⟨⟨a,n,c,h0,hI⟩,h1,h2,h3⟩:=h
  have HI:=Lib.hid hI
  have HN:=Lib.hid hI.len
  have hc:=hI.cap
  have hm:=hI.max
  have hlt:rb<w.heap.size:=World.block_lt_of_cell? w _ h1
  clear hI
  by_cases hk:n<k
  · have hq:cutP k (bs,sh)=([],([],true)):=by rw [cutP,if_pos (by have:=HN.out;simp only [];omega)]
    rw [hq]
    go_enter Tryd.func21,Tryd.ntmps21
    go_wp2_with fail
    go_returns
    have hD:=H.out.setShort (sh':=true)
    have hE:=hD.1.set (a:=none) (n:=0) (c:=0) (IsB.nil _ _)
    exact ⟨⟨none,0,0,rfl, .nil _ _⟩,hE.1,hD.2.trans hE.2⟩
  · have hkn:k≤n:=by omega
    have hq:cutP k (bs,sh)=(bs.take k,(bs.drop k,sh)):=by rw [cutP,if_neg (by have:=HN.out;simp only [];omega)]
    rw [hq]
    clear hk
    by_cases e:c=k
    · subst e
      have hz:n - c=0:=by omega
      go_enter Tryd.func21,Tryd.ntmps21
      go_wp2_with fail
      go_returns
      have hD:=H.out.set ((HI.out.drop c hkn).none_left (a':=a) hz)
      exact ⟨⟨a,c,c,rfl,(HI.out.take c hkn).keep (hD.2.below (Nat.le_of_lt hlt))⟩,hD⟩
    · have hck:k<c:=by omega
      go_enter Tryd.func21,Tryd.ntmps21
      go_wp2_with fail
      go_returns
      have hD:=H.out.set (HI.out.drop k hkn)
      exact ⟨⟨a,k,c,rfl,(HI.out.take k hkn).keep (hD.2.below (Nat.le_of_lt hlt))⟩,hD⟩
theorem or_byte64 (m y:Nat) (hm:m<36028797018963968) (hy:y<256):bits BinOp.or IntKind.i64 ((m:Int)*256) (y:Int)=((m*256+y:Nat):Int):=by
  have e:(m:Int)*256=((m*256:Nat):Int):=by omega
  have h:m*256+y=m*256|||y:=by
    have:=Nat.shiftLeft_add_eq_or_of_lt (show y<2 ^ 8 by omega) m
    simpa [Nat.shiftLeft_eq] using this
  have hx:m*256|||y<2 ^ 63:=Nat.or_lt_two_pow (by omega) (by omega)
  have h2:bits BinOp.or IntKind.i64 ((m*256:Nat):Int) (y:Int)=((m*256|||y:Nat):Int):=by
    show IntKind.i64.wrap ((BitVec.ofInt 64 ((m*256:Nat):Int)|||BitVec.ofInt 64 (y:Int)).toNat:Int)=_
    rw [BitVec.toNat_or,ofInt_u64 _ (by omega),ofInt_u64 y (by omega),IntKind.wrap_i64]
    omega
  have h3:bits BinOp.or IntKind.i64 ((m:Int)*256) (y:Int)=bits BinOp.or IntKind.i64 ((m*256:Nat):Int) (y:Int):=congrArg (fun z=>bits BinOp.or IntKind.i64 z (y:Int)) e
  exact h3.trans (h2.trans (congrArg (fun z:Nat=>(z:Int)) h.symm))
set_option maxHeartbeats 4000000 in
set_option maxRecDepth 100000 in
theorem numM_any (w:World) (rb:Nat) (s:List UInt8×Bool) (h:RdM w rb s.1 s.2) (k:Nat) (hk4:k≤4):
    Calls Tryd.prog 9 #[.pointer (some ⟨rb,0,none⟩), .int .i64 k] w fun e w'=>e= .returned (.int .i64 (num (cutP k s).1:Int))∧RdM w' rb (cutP k s).2.1 (cutP k s).2.2∧RStep w w' rb:=by
  have HC:=Lib.hid (cutM_any w rb s h k)
  have hl:(cutP k s).1.length≤4:=by
    unfold cutP
    split
    · exact Nat.zero_le _
    · rw [List.length_take];omega
  obtain ⟨ts,hts⟩:∃ts,(cutP k s).1=ts:=⟨_,rfl⟩
  obtain ⟨s',hs'⟩:∃s',(cutP k s).2=s':=⟨_,rfl⟩
  rw [hts] at HC hl ⊢
  rw [hs'] at HC ⊢
  clear h hts hs'
  go_enter Tryd.func9,Tryd.ntmps9
  go_wp2_with (go_at_call 21;(with_reducible refine (HC.out).mono ?_);rintro e w1 ⟨⟨a,n,c,rfl,hI⟩,hR,hS⟩;have hn:=hI.len;have hc1:=hI.cap;have hc2:=hI.max;have HI:=Lib.hid hI;have HN:=Lib.hid hn;clear hI hn)
  go_loopw [5,7,12] (fun x _ i wr=>wr=w1∧∃j:Nat,j≤n∧i= .int .i64 j∧x= .int .i64 (num (ts.take j):Int)) (fun _ _ i _=>n - (intOf i).toNat)
  case atStart=>exact ⟨rfl,0,Nat.zero_le _,rfl,rfl⟩
  case round=>
    obtain ⟨rfl,j,hj,rfl,rfl⟩:=hrel
    by_cases hlt:j<n
    · obtain ⟨b,o,hp,rfl,hb,hcell⟩:=HI.out.get hlt
      have hlt2:num (ts.take j)<36028797018963968:=by
        have h1:=num_lt (ts.take j)
        have h2:(ts.take j).length≤4:=by rw [List.length_take];have:=HN.out;omega
        exact Nat.lt_of_lt_of_le h1 (Nat.le_trans (Nat.pow_le_pow_right (by omega) h2) (by decide))
      obtain ⟨m,hm⟩:∃m,num (ts.take j)=m:=⟨_,rfl⟩
      obtain ⟨y,hy⟩:∃y,(ts[j]'hp).toNat=y:=⟨_,rfl⟩
      have hy2:y<256:=by rw [←hy];exact (ts[j]'hp).toNat_lt
      have ht:=num_take ts j hp
      rw [hm,hy] at ht
      rw [hm] at hlt2 ⊢
      rw [hy] at hcell
      have HT:=Lib.hid ht
      have HO:=Lib.hid (or_byte64 m y hlt2 hy2)
      clear ht hm hy
      go_wp2_with fail
      go_roundw
      case rel=>exact ⟨trivial,j+1,by omega,by go_num,by rw [HT.out,HO.out]⟩
      case measure=>simp [intOf];omega
    · go_wp2_with fail
      go_returns
      exact ⟨by rw [List.take_of_length_le (by have:=HN.out;omega)] <;>rfl,hR,hS⟩
def numP (k:Nat) (s:List UInt8×Bool):Nat×(List UInt8×Bool):=(num (cutP k s).1,(cutP k s).2)
def textP (k:Nat) (s:List UInt8×Bool):ByteArray×(List UInt8×Bool):=
  (⟨(cutP (numP k s).1 (numP k s).2).1.toArray⟩,(cutP (numP k s).1 (numP k s).2).2)
theorem num1_any (w:World) (rb:Nat) (s:List UInt8×Bool) (h:RdM w rb s.1 s.2):
    Calls Tryd.prog 9 #[.pointer (some ⟨rb,0,none⟩), .int .i64 1] w fun e w'=>e= .returned (.int .i64 ((numP 1 s).1:Int))∧RdM w' rb (numP 1 s).2.1 (numP 1 s).2.2∧RStep w w' rb:=numM_any w rb s h 1 (by omega)
theorem num2_any (w:World) (rb:Nat) (s:List UInt8×Bool) (h:RdM w rb s.1 s.2):
    Calls Tryd.prog 9 #[.pointer (some ⟨rb,0,none⟩), .int .i64 2] w fun e w'=>e= .returned (.int .i64 ((numP 2 s).1:Int))∧RdM w' rb (numP 2 s).2.1 (numP 2 s).2.2∧RStep w w' rb:=numM_any w rb s h 2 (by omega)
theorem num4_any (w:World) (rb:Nat) (s:List UInt8×Bool) (h:RdM w rb s.1 s.2):
    Calls Tryd.prog 9 #[.pointer (some ⟨rb,0,none⟩), .int .i64 4] w fun e w'=>e= .returned (.int .i64 ((numP 4 s).1:Int))∧RdM w' rb (numP 4 s).2.1 (numP 4 s).2.2∧RStep w w' rb:=numM_any w rb s h 4 (by omega)
set_option maxHeartbeats 1000000 in
set_option maxRecDepth 100000 in
theorem textM_any (w:World) (rb:Nat) (s:List UInt8×Bool) (h:RdM w rb s.1 s.2) (k:Nat) (hk4:k≤4):
    Calls Tryd.prog 10 #[.pointer (some ⟨rb,0,none⟩), .int .i64 k] w fun e w'=>e= .returned (.string (textP k s).1)∧RdM w' rb (textP k s).2.1 (textP k s).2.2∧RStep w w' rb:=by
  have HNM:=Lib.hid (numM_any w rb s h k hk4)
  obtain ⟨N,hN⟩:∃N,num (cutP k s).1=N:=⟨_,rfl⟩
  obtain ⟨s',hs'⟩:∃s',(cutP k s).2=s':=⟨_,rfl⟩
  have HR:Hid (textP k s=(⟨(cutP N s').1.toArray⟩,(cutP N s').2)):=by show _=_;rw [textP,numP,hN,hs']
  rw [hN,hs'] at HNM
  clear h hN hs'
  go_enter Tryd.func10,Tryd.ntmps10
  go_wp2_with (first|(go_at_call 9;(with_reducible refine (HNM.out).mono ?_);rintro e w1 ⟨rfl,hR,hS⟩)|(go_at_call 21;(with_reducible refine (cutM_any w1 rb s' hR N).mono ?_);rintro e w2 ⟨⟨a,n,c,rfl,hI⟩,hR2,hS2⟩;have hcv:=conv_isB hI))
  go_returns
  rw [HR.out]
  exact ⟨rfl,hR2,hS.trans hS2⟩
set_option maxHeartbeats 1000000 in
set_option maxRecDepth 100000 in
theorem allM_any (w:World) (rb:Nat) (s:List UInt8×Bool) (h:RdM w rb s.1 s.2):
    Calls Tryd.prog 23 #[.pointer (some ⟨rb,0,none⟩)] w fun e w'=>(∃a n c,e= .returned (.slice a n c)∧IsB w' rb a n c s.1)∧RdM w' rb [] s.2∧RStep w w' rb:=by
  have HC:=Lib.hid (cutM_any w rb s h s.1.length)
  have hq:cutP s.1.length s=(s.1,([],s.2)):=by rw [cutP,if_neg (by omega),List.take_length,List.drop_length]
  rw [hq] at HC
  obtain ⟨⟨a,n,c,h0,hI⟩,h1,h2,h3⟩:=h
  have hn:=hI.len
  rw [←hn] at HC
  clear hI hn hq
  go_enter Tryd.func23,Tryd.ntmps23
  go_wp2_with (go_at_call 21;(with_reducible refine (HC.out).mono ?_);rintro e w1 ⟨⟨a1,n1,c1,rfl,hI⟩,hR,hS⟩)
  go_returns
  exact ⟨⟨a1,n1,c1,rfl,hI⟩,hR,hS⟩
end Go.Proofs.YthceefjafklcmaaDoor
namespace Go.Proofs.YthceefjafklcmaaDoor
open Go.RowKit
noncomputable def backE (bs:List UInt8):En×Int:=if 60000<bs.length then (En.none,3) else
  match rdE bs with
  |none=>(En.none,100)
  |some (v,_)=>if outN (enSound v) (encE v)=0 then (if eqBs (outB (enSound v) (encE v)) bs=true then (v,0) else (En.none,100)) else (En.none,100)
theorem wholeE_any (w:World) (hT:Tabs w) (a:Option Addr) (n c:Nat) (bs:List UInt8) (h:IsB w w.heap.size a n c bs) (hmax:bs.length≤281474976710656) {out:En×Int} (hout:backE bs=out):
    Calls Tryd.prog 37 #[.slice a n c, .func (.func 38) #[] #[], .func (.func 32) #[] #[]] w (WEPost w out):=by
  subst hout
  by_cases hl:60000<bs.length
  · rw [backE,if_pos hl];exact wholeE_long w a n c bs h hl
  rw [backE,if_neg hl]
  cases hr:rdE bs with
  |none=>exact wholeE_none w a n c bs h (by omega) hr
  | some p=>
    obtain ⟨v,r⟩:=p
    obtain ⟨hlen,hwt,hws⟩:=rdE_len hr
    have hsz:(encE v).length≤70368744177664:=by omega
    have HLV:Hid (∀W5,Below w.heap.size w W5→∀cv:EC,IsEntry W5 W5.heap.size v cv→Hid (∀W,Below W5.heap.size W5 W→Calls Tryd.prog 29 #[.agg #[.int .u8 cv.k, .int .u32 cv.src, .int .u32 cv.seq, .int .u8 cv.v.k, .int .i64 cv.v.n, .string cv.v.s, .slice cv.v.la cv.v.ll cv.v.lc, .slice cv.v.oa cv.v.ol cv.v.oc, .slice cv.oa cv.ol cv.oc]] W fun e w'=>e= .returned (.bool (enSound v))∧Below W.heap.size W w')):=fun W5 hb cv hv W hW=>enSound_any v W ((hT.below hb).below hW) cv (hv.later_ hW) ⟨by omega,fun x hx=>by have:=hws x hx;omega⟩
    show Calls _ _ _ _ (WEPost w (if outN (enSound v) (encE v)=0 then (if eqBs (outB (enSound v) (encE v)) bs=true then (v,0) else (En.none,100)) else (En.none,100)))
    by_cases h0:outN (enSound v) (encE v)=0
    · rw [if_pos h0]
      cases he:eqBs (outB (enSound v) (encE v)) bs with
      |true=>rw [if_pos rfl];exact wholeE_eq w a n c bs h (by omega) hr hsz _ HLV h0 he
      |false=>rw [if_neg (by simp)];exact wholeE_neq w a n c bs h (by omega) hr hsz _ HLV h0 he
    · rw [if_neg h0];exact wholeE_bad w a n c bs h (by omega) hr hsz _ HLV h0
theorem backE_ok {bs:List UInt8} {v:En} (h:backE bs=(v,0)):enSound v=true∧encE v=bs∧bs.length≤60000∧∃r,rdE bs=some (v,r):=by
  rw [backE] at h
  by_cases hl:60000<bs.length
  · rw [if_pos hl] at h;injection h with h1 h2;omega
  rw [if_neg hl] at h
  cases hr:rdE bs with
  |none=>rw [hr] at h;injection h with h1 h2;omega
  | some p=>
    obtain ⟨x,r⟩:=p
    rw [hr] at h
    replace h:(if outN (enSound x) (encE x)=0 then (if eqBs (outB (enSound x) (encE x)) bs=true then (x,(0:Int)) else (En.none,100)) else (En.none,100))=(v,0):=h
    by_cases h0:outN (enSound x) (encE x)=0
    · rw [if_pos h0] at h
      by_cases he:eqBs (outB (enSound x) (encE x)) bs=true
      · rw [if_pos he] at h
        injection h with h1 h2
        subst h1
        have hs:enSound x=true:=by
          cases hs:enSound x with
          |true=>rfl
          |false=>rw [hs] at h0;simp [outN] at h0
        rw [hs] at h0 he
        have hlen:¬60000<(encE x).length:=by
          intro hq;rw [outN,if_pos rfl,if_pos hq] at h0;omega
        rw [outB,if_pos rfl,if_neg hlen] at he
        exact ⟨hs,by simpa [eqBs] using he,by omega,r,rfl⟩
      · rw [if_neg he] at h;injection h with h1 h2;omega
    · rw [if_neg h0] at h;injection h with h1 h2;omega
theorem results_backE {tmps:Array Value} {W:World} {b:Nat} {cv:EC} {x:Value} (ht:tmps[2]? =some (.pointer (some ⟨b,0,none⟩))) (ht':tmps[3]? =some x) (h:BC W b [.int .u8 cv.k, .int .u32 cv.src, .int .u32 cv.seq, .int .u8 cv.v.k, .int .i64 cv.v.n, .string cv.v.s, .slice cv.v.la cv.v.ll cv.v.lc, .slice cv.v.oa cv.v.ol cv.v.oc, .slice cv.oa cv.ol cv.oc]):
    (results Tryd.f22 tmps).run Tryd.prog W= .ok (.tuple #[.agg #[.int .u8 cv.k, .int .u32 cv.src, .int .u32 cv.seq, .int .u8 cv.v.k, .int .i64 cv.v.n, .string cv.v.s, .slice cv.v.la cv.v.ll cv.v.lc, .slice cv.v.oa cv.v.ol cv.v.oc, .slice cv.oa cv.ol cv.oc],x]) W:=by
  obtain ⟨r0,r1,r2,r3,r4,r5,r6,r7,r8⟩:=row9 h.at_
  simp [results,Tryd.results22,go_sem,ht,ht',r0,r1,r2,r3,r4,r5,r6,r7,r8]
set_option maxHeartbeats 4000000 in
set_option maxRecDepth 100000 in
theorem backE_new (w:World) (hT:Tabs w) (a:Option Addr) (n c:Nat) (bs:List UInt8) (h:IsB w w.heap.size a n c bs) (hmax:bs.length≤281474976710656) {v:En} {e:Int} (hout:backE bs=(v,e)):
    Calls Tryd.prog 22 #[.slice a n c] w fun ee w'=>(∃cv:EC,ee= .returned (.tuple #[.agg #[.int .u8 cv.k, .int .u32 cv.src, .int .u32 cv.seq, .int .u8 cv.v.k, .int .i64 cv.v.n, .string cv.v.s, .slice cv.v.la cv.v.ll cv.v.lc, .slice cv.v.oa cv.v.ol cv.v.oc, .slice cv.oa cv.ol cv.oc], .int .u16 e])∧IsEntry (only (fun b=>w.heap.size≤b) w') w'.heap.size v cv)∧Below w.heap.size w w':=by
  have HX:Hid (∀W,W=w.alloc (.cells ez.toArray 31)→Tabs W∧IsB W W.heap.size a n c bs∧BC W w.heap.size ez∧Below w.heap.size w W∧W.heap.size=w.heap.size+1):=by
    intro W hW
    subst hW
    have hb:Below w.heap.size w (w.alloc (.cells ez.toArray 31)):=(Below.refl _ _).alloc (Nat.le_refl _) _
    exact ⟨hT.below hb,(h.keep hb).more hb.size,BC.start w ez.toArray _,hb,by simp⟩
  have HO:=Lib.hid hout
  clear h hT hout
  go_enter Tryd.func22,Tryd.ntmps22
  go_wp2_with (go_at_call 37;refine (wholeE_any _ (HX.out _ rfl).1 a n c bs (HX.out _ rfl).2.1 hmax HO.out).mono ?_;rintro ee w2 ⟨⟨cv,rfl,hI⟩,hb⟩;have HH:=HX.out _ rfl;have O:=HH.2.2.1.keep hb (by omega);have o0:=O.at_ 0 _ rfl;have g0:=O.fr 0;have o1:=O.at_ 1 _ rfl;have g1:=O.fr 1;have o2:=O.at_ 2 _ rfl;have g2:=O.fr 2;have o3:=O.at_ 3 _ rfl;have g3:=O.fr 3;have o4:=O.at_ 4 _ rfl;have g4:=O.fr 4;have o5:=O.at_ 5 _ rfl;have g5:=O.fr 5;have o6:=O.at_ 6 _ rfl;have g6:=O.fr 6;have o7:=O.at_ 7 _ rfl;have g7:=O.fr 7;have o8:=O.at_ 8 _ rfl;have g8:=O.fr 8;have B2:=Lib.hid (HH.2.2.2.1.trans (hb.mono (by omega)));have HI:=Lib.hid hI;have SZ:=Lib.hid HH.2.2.2.2;have OO:=Lib.hid (show BC w2 w.heap.size [.int .u8 0, .int .u32 0, .int .u32 0, .int .u8 0, .int .i64 0, .string { data:= #[] }, .slice none 0 0, .slice none 0 0, .slice none 0 0] from O);clear hI hb HH O)
  have hs:RStep w2 ((((((((((w2.setCell ⟨w.heap.size,0,none⟩ (.int .u8 cv.k)).setCell ⟨w.heap.size,1,none⟩ (.int .u32 cv.src)).setCell ⟨w.heap.size,2,none⟩ (.int .u32 cv.seq)).setCell ⟨w.heap.size,3,none⟩ (.int .u8 cv.v.k)).setCell ⟨w.heap.size,4,none⟩ (.int .i64 cv.v.n)).setCell ⟨w.heap.size,5,none⟩ (.string cv.v.s)).setCell ⟨w.heap.size,6,none⟩ (.slice cv.v.la cv.v.ll cv.v.lc)).setCell ⟨w.heap.size,7,none⟩ (.slice cv.v.oa cv.v.ol cv.v.oc)).setCell ⟨w.heap.size,8,none⟩ (.slice cv.oa cv.ol cv.oc))) w.heap.size:=(((((((RStep.self.trans RStep.self).trans RStep.self).trans RStep.self).trans RStep.self).trans RStep.self).trans RStep.self).trans RStep.self).trans RStep.self
  have hbc:BC ((((((((((w2.setCell ⟨w.heap.size,0,none⟩ (.int .u8 cv.k)).setCell ⟨w.heap.size,1,none⟩ (.int .u32 cv.src)).setCell ⟨w.heap.size,2,none⟩ (.int .u32 cv.seq)).setCell ⟨w.heap.size,3,none⟩ (.int .u8 cv.v.k)).setCell ⟨w.heap.size,4,none⟩ (.int .i64 cv.v.n)).setCell ⟨w.heap.size,5,none⟩ (.string cv.v.s)).setCell ⟨w.heap.size,6,none⟩ (.slice cv.v.la cv.v.ll cv.v.lc)).setCell ⟨w.heap.size,7,none⟩ (.slice cv.v.oa cv.v.ol cv.v.oc)).setCell ⟨w.heap.size,8,none⟩ (.slice cv.oa cv.ol cv.oc))) w.heap.size [.int .u8 cv.k, .int .u32 cv.src, .int .u32 cv.seq, .int .u8 cv.v.k, .int .i64 cv.v.n, .string cv.v.s, .slice cv.v.la cv.v.ll cv.v.lc, .slice cv.v.oa cv.v.ol cv.v.oc, .slice cv.oa cv.ol cv.oc] :=(((((((((OO.out.set (i:=0) (x:= .int .u8 cv.k) (by simp)).set (i:=1) (x:= .int .u32 cv.src) (by simp)).set (i:=2) (x:= .int .u32 cv.seq) (by simp)).set (i:=3) (x:= .int .u8 cv.v.k) (by simp)).set (i:=4) (x:= .int .i64 cv.v.n) (by simp)).set (i:=5) (x:= .string cv.v.s) (by simp)).set (i:=6) (x:= .slice cv.v.la cv.v.ll cv.v.lc) (by simp)).set (i:=7) (x:= .slice cv.v.oa cv.v.ol cv.v.oc) (by simp)).set (i:=8) (x:= .slice cv.oa cv.ol cv.oc) (by simp))
  exact ⟨rfl,_,results_backE rfl rfl hbc,⟨cv,rfl,(isEntry_far HI.out hs (by have:=SZ.out;omega)).sub (shows_step fun k hk _=>⟨Nat.le_trans (Nat.le_succ _) (by have:=SZ.out;simpa [this] using hk),rfl⟩)⟩,B2.out.trans (hs.below (by have:=OO.out.lt;omega))⟩
end Go.Proofs.YthceefjafklcmaaDoor
namespace Go.Proofs.YthceefjafklcmaaDoor
open Go.RowKit
noncomputable def backR (bs:List UInt8):V×Int:=if 60000<bs.length then (V.none,3) else
  match rdV 18 bs with
  |none=>(V.none,100)
  |some (v,_)=>if outN (lightB v) (encV v)=0 then (if eqBs (outB (lightB v) (encV v)) bs=true then (v,0) else (V.none,100)) else (V.none,100)
theorem wholeV_any (w:World) (hT:Tabs w) (a:Option Addr) (n c:Nat) (bs:List UInt8) (h:IsB w w.heap.size a n c bs) (hmax:bs.length≤281474976710656) {out:V×Int} (hout:backR bs=out):
    Calls Tryd.prog 39 #[.slice a n c, .func (.func 40) #[] #[], .func (.func 33) #[] #[]] w (WVPost w out):=by
  subst hout
  by_cases hl:60000<bs.length
  · rw [backR,if_pos hl];exact wholeV_long w a n c bs h hl
  rw [backR,if_neg hl]
  cases hr:rdV 18 bs with
  |none=>exact wholeV_none w a n c bs h (by omega) hr
  | some p=>
    obtain ⟨v,r⟩:=p
    obtain ⟨hlen,hwt⟩:=rdV_len 18 bs v r hr
    have hsz:(encV v).length≤70368744177664:=by omega
    have HLV:Hid (∀W5,Below w.heap.size w W5→∀cv:VC,IsVal W5 W5.heap.size v cv→Hid (∀W,Below W5.heap.size W5 W→Calls Tryd.prog 43 #[.agg #[.int .u8 cv.k, .int .i64 cv.n, .string cv.s, .slice cv.la cv.ll cv.lc, .slice cv.oa cv.ol cv.oc]] W fun e w'=>e= .returned (.bool (lightB v))∧Below W.heap.size W w')):=fun W5 hb cv hv W hW=>light_any v W ((hT.below hb).below hW) cv (hv.later_ hW) (by omega)
    show Calls _ _ _ _ (WVPost w (if outN (lightB v) (encV v)=0 then (if eqBs (outB (lightB v) (encV v)) bs=true then (v,0) else (V.none,100)) else (V.none,100)))
    by_cases h0:outN (lightB v) (encV v)=0
    · rw [if_pos h0]
      cases he:eqBs (outB (lightB v) (encV v)) bs with
      |true=>rw [if_pos rfl];exact wholeV_eq w a n c bs h (by omega) hr hsz _ HLV h0 he
      |false=>rw [if_neg (by simp)];exact wholeV_neq w a n c bs h (by omega) hr hsz _ HLV h0 he
    · rw [if_neg h0];exact wholeV_bad w a n c bs h (by omega) hr hsz _ HLV h0
theorem backR_ok {bs:List UInt8} {v:V} (h:backR bs=(v,0)):lightB v=true∧encV v=bs∧bs.length≤60000∧∃r,rdV 18 bs=some (v,r):=by
  rw [backR] at h
  by_cases hl:60000<bs.length
  · rw [if_pos hl] at h;injection h with h1 h2;omega
  rw [if_neg hl] at h
  cases hr:rdV 18 bs with
  |none=>rw [hr] at h;injection h with h1 h2;omega
  | some p=>
    obtain ⟨x,r⟩:=p
    rw [hr] at h
    replace h:(if outN (lightB x) (encV x)=0 then (if eqBs (outB (lightB x) (encV x)) bs=true then (x,(0:Int)) else (V.none,100)) else (V.none,100))=(v,0):=h
    by_cases h0:outN (lightB x) (encV x)=0
    · rw [if_pos h0] at h
      by_cases he:eqBs (outB (lightB x) (encV x)) bs=true
      · rw [if_pos he] at h
        injection h with h1 h2
        subst h1
        have hs:lightB x=true:=by
          cases hs:lightB x with
          |true=>rfl
          |false=>rw [hs] at h0;simp [outN] at h0
        rw [hs] at h0 he
        have hlen:¬60000<(encV x).length:=by
          intro hq;rw [outN,if_pos rfl,if_pos hq] at h0;omega
        rw [outB,if_pos rfl,if_neg hlen] at he
        exact ⟨hs,by simpa [eqBs] using he,by omega,r,rfl⟩
      · rw [if_neg he] at h;injection h with h1 h2;omega
    · rw [if_neg h0] at h;injection h with h1 h2;omega
theorem results_backR {tmps:Array Value} {W:World} {b:Nat} {cv:VC} {x:Value} (ht:tmps[2]? =some (.pointer (some ⟨b,0,none⟩))) (ht':tmps[3]? =some x) (h:BC W b [.int .u8 cv.k, .int .i64 cv.n, .string cv.s, .slice cv.la cv.ll cv.lc, .slice cv.oa cv.ol cv.oc]):
    (results Tryd.f24 tmps).run Tryd.prog W= .ok (.tuple #[.agg #[.int .u8 cv.k, .int .i64 cv.n, .string cv.s, .slice cv.la cv.ll cv.lc, .slice cv.oa cv.ol cv.oc],x]) W:=by
  obtain ⟨r0,r1,r2,r3,r4⟩:=row5 h.at_
  simp [results,Tryd.results24,go_sem,ht,ht',r0,r1,r2,r3,r4]
set_option maxHeartbeats 4000000 in
set_option maxRecDepth 100000 in
theorem backR_new (w:World) (hT:Tabs w) (a:Option Addr) (n c:Nat) (bs:List UInt8) (h:IsB w w.heap.size a n c bs) (hmax:bs.length≤281474976710656) {v:V} {e:Int} (hout:backR bs=(v,e)):
    Calls Tryd.prog 24 #[.slice a n c] w fun ee w'=>(∃cv:VC,ee= .returned (.tuple #[.agg #[.int .u8 cv.k, .int .i64 cv.n, .string cv.s, .slice cv.la cv.ll cv.lc, .slice cv.oa cv.ol cv.oc], .int .u16 e])∧IsVal (only (fun b=>w.heap.size≤b) w') w'.heap.size v cv)∧Below w.heap.size w w':=by
  have HX:Hid (∀W,W=w.alloc (.cells vz.toArray 28)→Tabs W∧IsB W W.heap.size a n c bs∧BC W w.heap.size vz∧Below w.heap.size w W∧W.heap.size=w.heap.size+1):=by
    intro W hW
    subst hW
    have hb:Below w.heap.size w (w.alloc (.cells vz.toArray 28)):=(Below.refl _ _).alloc (Nat.le_refl _) _
    exact ⟨hT.below hb,(h.keep hb).more hb.size,BC.start w vz.toArray _,hb,by simp⟩
  have HO:=Lib.hid hout
  clear h hT hout
  go_enter Tryd.func24,Tryd.ntmps24
  go_wp2_with (go_at_call 39;refine (wholeV_any _ (HX.out _ rfl).1 a n c bs (HX.out _ rfl).2.1 hmax HO.out).mono ?_;rintro ee w2 ⟨⟨cv,rfl,hI⟩,hb⟩;have HH:=HX.out _ rfl;have O:=HH.2.2.1.keep hb (by omega);have o0:=O.at_ 0 _ rfl;have g0:=O.fr 0;have o1:=O.at_ 1 _ rfl;have g1:=O.fr 1;have o2:=O.at_ 2 _ rfl;have g2:=O.fr 2;have o3:=O.at_ 3 _ rfl;have g3:=O.fr 3;have o4:=O.at_ 4 _ rfl;have g4:=O.fr 4;have B2:=Lib.hid (HH.2.2.2.1.trans (hb.mono (by omega)));have HI:=Lib.hid hI;have SZ:=Lib.hid HH.2.2.2.2;have OO:=Lib.hid (show BC w2 w.heap.size [.int .u8 0, .int .i64 0, .string { data:= #[] }, .slice none 0 0, .slice none 0 0] from O);clear hI hb HH O)
  have hs:RStep w2 ((((((w2.setCell ⟨w.heap.size,0,none⟩ (.int .u8 cv.k)).setCell ⟨w.heap.size,1,none⟩ (.int .i64 cv.n)).setCell ⟨w.heap.size,2,none⟩ (.string cv.s)).setCell ⟨w.heap.size,3,none⟩ (.slice cv.la cv.ll cv.lc)).setCell ⟨w.heap.size,4,none⟩ (.slice cv.oa cv.ol cv.oc))) w.heap.size:=(((RStep.self.trans RStep.self).trans RStep.self).trans RStep.self).trans RStep.self
  have hbc:BC ((((((w2.setCell ⟨w.heap.size,0,none⟩ (.int .u8 cv.k)).setCell ⟨w.heap.size,1,none⟩ (.int .i64 cv.n)).setCell ⟨w.heap.size,2,none⟩ (.string cv.s)).setCell ⟨w.heap.size,3,none⟩ (.slice cv.la cv.ll cv.lc)).setCell ⟨w.heap.size,4,none⟩ (.slice cv.oa cv.ol cv.oc))) w.heap.size [.int .u8 cv.k, .int .i64 cv.n, .string cv.s, .slice cv.la cv.ll cv.lc, .slice cv.oa cv.ol cv.oc] :=(((((OO.out.set (i:=0) (x:= .int .u8 cv.k) (by simp)).set (i:=1) (x:= .int .i64 cv.n) (by simp)).set (i:=2) (x:= .string cv.s) (by simp)).set (i:=3) (x:= .slice cv.la cv.ll cv.lc) (by simp)).set (i:=4) (x:= .slice cv.oa cv.ol cv.oc) (by simp))
  exact ⟨rfl,_,results_backR rfl rfl hbc,⟨cv,rfl,(isVal_far HI.out hs (by have:=SZ.out;omega)).sub (shows_step fun k hk _=>⟨Nat.le_trans (Nat.le_succ _) (by have:=SZ.out;simpa [this] using hk),rfl⟩)⟩,B2.out.trans (hs.below (by have:=OO.out.lt;omega))⟩
end Go.Proofs.YthceefjafklcmaaDoor
