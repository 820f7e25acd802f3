/-
  Contracts of the functions that the law reaches: conciliatorref19.Sound of any message. conciliatorref19.Decode.
-/
import Derived.Test.YthceefjafklcmaaGreatDoorMd46
import Derived.Test.YthceefjafklcmaaGreatDoorMd47
import Derived.Test.YthceefjafklcmaaGreatDoorMd48
import Derived.Test.YthceefjafklcmaaGreatDoorMd45
import Derived.Deep.RegionHeldLaw
namespace Go.Proofs.YthceefjafklcmaaGreatDoor
open Go.RowKit
theorem refMsgSound_any (m:Ms) (w:World) (hT:Tabs w) (c:MC) (hm:IsMsg w w.heap.size m c) (hs:m.e.small):
    Calls Tryz.prog 16 #[.agg (mcells c).toArray] w fun e w'=>e= .returned (.bool (msgSound m))∧Below w.heap.size w w':=by
  cases hm with
  |mk c e v f hb he hv hf=>
  dsimp only at hs
  have HE:Hid (Behind w 31 #[.agg #[.int .u8 c.e.k, .int .u32 c.e.src, .int .u32 c.e.seq, .int .u8 c.e.v.k, .int .i64 c.e.v.n, .string c.e.v.s, .slice c.e.v.la c.e.v.ll c.e.v.lc, .slice c.e.v.oa c.e.v.ol c.e.v.oc, .slice c.e.oa c.e.ol c.e.oc]] (.bool (enSound e))):=fun W hW=>refEnSound_any e W (hT.below hW) c.e (he.later_ hW) hs
  have HF:Hid (Behind w 30 #[.slice c.fa c.fl c.fc] (.bool (fieldsSound f))):=fun W hW=>ref18Sound_any f W (hT.below hW) _ _ _ (hf.later_ hW)
  have HQ:∀(y:Ms) (d:MC) {sm:Bool},IsMsg w w.heap.size y d→sameMs c d (eqB f y.f) (eqB e y.e) (eqv v y.v)=sm→Hid (Behind w 7 #[.agg (mcells c).toArray, .agg (mcells d).toArray] (.bool sm)):=fun y d sm hd h W hW=>by
    rw [←h];exact refMsSame_any ⟨c.k,c.doc,c.n,e,c.src,c.seq,c.err,c.there,v,f⟩ y W c d ((IsMsg.mk c e v f hb he hv hf).later_ hW) (hd.later_ hW)
  have hn:=IsStrs.nil w w.heap.size
  have he0:=isEntry_none w w.heap.size
  have hv0:=isVal_none w w.heap.size
  have hsd:= @enSound_some e
  have hbn:∀k:Int,0≤k→k<256→KB k c.doc c.n:=fun k h1 h2=>⟨h1,h2,hb.d1,hb.n0,hb.n1⟩
  have hb0:∀k:Int,0≤k→k<256→KB k c.doc 0:=fun k h1 h2=>⟨h1,h2,hb.d1,by decide,by decide⟩
  have hdoc:=doc_nil c.doc
  have hfs:f.isEmpty=true→fieldsSound f=true:=fun h=>by
    rw [List.isEmpty_iff.1 h];exact fieldsSound_nil
  by_cases e1:c.k=1
  ·
    refine (refSnd_1 w c e1 HF (HQ _ _ (isMsg_of (hbn 1 (by decide) (by decide)) he0 hv0 hf (th:=false) (by decide) (by decide) (by decide) (by decide) (by decide) (by decide)) rfl)).mono fun e' w' hx=> ?_
    obtain ⟨h1,h2⟩:=hx
    refine ⟨?_,h2⟩
    rw [h1]
    congr 2
    clear HE HF HQ h1 h2
    simp only [rsnd,sameMs,sameB,msgSound,sndM,sameM,e1,bringsB,numberedB,hdoc, ←enNone_eq,eqB_self]
    generalize enNone e=a at*
    generalize enSound e=b at*
    generalize eqv v V.none=vn at*
    clear hn he0 hv0 hbn hb0 hdoc he hv hf hb
    generalize fieldsSound f=fs at*
    generalize List.isEmpty f=fe at*
    generalize c.there=th at*
    generalize c.doc.size=sz at*
    generalize c.n=nn at*
    generalize c.src=x1 at*
    generalize c.seq=x2 at*
    generalize c.err=x3 at*
    apply Bool.eq_iff_iff.2
    cases a<;>cases b<;>cases vn<;>cases fs<;>cases fe<;>cases th<;>simp_all<;>omega
  by_cases e2:c.k=2
  ·
    refine (refSnd_2 w c e2 (HQ _ _ (isMsg_of (hb0 2 (by decide) (by decide)) he0 hv0 hn (th:=false) (by decide) (by decide) (by decide) (by decide) (by decide) (by decide)) rfl)).mono fun e' w' hx=> ?_
    obtain ⟨h1,h2⟩:=hx
    refine ⟨?_,h2⟩
    rw [h1]
    congr 2
    clear HE HF HQ h1 h2
    simp only [rsnd,sameMs,sameB,msgSound,sndM,sameM,e2,bringsB,numberedB,hdoc, ←enNone_eq,eqB_nil]
    generalize enNone e=a at*
    generalize enSound e=b at*
    generalize eqv v V.none=vn at*
    clear hn he0 hv0 hbn hb0 hdoc he hv hf hb
    generalize fieldsSound f=fs at*
    generalize List.isEmpty f=fe at*
    generalize c.there=th at*
    generalize c.doc.size=sz at*
    generalize c.n=nn at*
    generalize c.src=x1 at*
    generalize c.seq=x2 at*
    generalize c.err=x3 at*
    apply Bool.eq_iff_iff.2
    cases a<;>cases b<;>cases vn<;>cases fs<;>cases fe<;>cases th<;>simp_all<;>omega
  by_cases e3:c.k=3
  ·
    refine (refSnd_3 w c e3 HE (HQ _ _ (isMsg_of (hbn 3 (by decide) (by decide)) he hv0 hn (th:=false) (by decide) (by decide) (by decide) (by decide) (by decide) (by decide)) rfl)).mono fun e' w' hx=> ?_
    obtain ⟨h1,h2⟩:=hx
    refine ⟨?_,h2⟩
    rw [h1]
    congr 2
    clear HE HF HQ h1 h2
    simp only [rsnd,sameMs,sameB,msgSound,sndM,sameM,e3,bringsB,numberedB,hdoc,eqB_self,eqB_nil]
    generalize enNone e=a at*
    generalize enSound e=b at*
    generalize eqv v V.none=vn at*
    clear hn he0 hv0 hbn hb0 hdoc he hv hf hb
    generalize fieldsSound f=fs at*
    generalize List.isEmpty f=fe at*
    generalize c.there=th at*
    generalize c.doc.size=sz at*
    generalize c.n=nn at*
    generalize c.src=x1 at*
    generalize c.seq=x2 at*
    generalize c.err=x3 at*
    apply Bool.eq_iff_iff.2
    cases a<;>cases b<;>cases vn<;>cases fs<;>cases fe<;>cases th<;>simp_all<;>omega
  by_cases e4:c.k=4
  ·
    cases eth:c.there
    ·
      refine (refSnd_4f w c e4 eth (HQ _ _ (isMsg_of (hbn 4 (by decide) (by decide)) he0 hv0 hn (th:=false) (by decide) (by decide) (by decide) (by decide) (by decide) (by decide)) rfl)).mono fun e' w' hx=> ?_
      obtain ⟨h1,h2⟩:=hx
      refine ⟨?_,h2⟩
      rw [h1]
      congr 2
      clear HE HF HQ h1 h2
      simp only [rsnd,sameMs,sameB,msgSound,sndM,sameM,e4,bringsB,numberedB,hdoc, ←enNone_eq,eqB_nil,eth]
      generalize enNone e=a at*
      generalize enSound e=b at*
      generalize eqv v V.none=vn at*
      clear eth
      clear hn he0 hv0 hbn hb0 hdoc he hv hf hb
      generalize fieldsSound f=fs at*
      generalize List.isEmpty f=fe at*
      generalize c.there=th at*
      generalize c.doc.size=sz at*
      generalize c.n=nn at*
      generalize c.src=x1 at*
      generalize c.seq=x2 at*
      generalize c.err=x3 at*
      apply Bool.eq_iff_iff.2
      cases a<;>cases b<;>cases vn<;>cases fs<;>cases fe<;>cases th<;>simp_all<;>omega
    ·
      refine (refSnd_4t w c e4 eth (HQ _ _ (isMsg_of (hbn 4 (by decide) (by decide)) he0 hv hn (th:=true) (by decide) (by decide) (by decide) (by decide) (by decide) (by decide)) rfl)).mono fun e' w' hx=> ?_
      obtain ⟨h1,h2⟩:=hx
      refine ⟨?_,h2⟩
      rw [h1]
      congr 2
      clear HE HF HQ h1 h2
      simp only [rsnd,sameMs,sameB,msgSound,sndM,sameM,e4,bringsB,numberedB,hdoc, ←enNone_eq,eqv_self,eqB_nil,eth]
      generalize enNone e=a at*
      generalize enSound e=b at*
      generalize eqv v V.none=vn at*
      clear eth
      clear hn he0 hv0 hbn hb0 hdoc he hv hf hb
      generalize fieldsSound f=fs at*
      generalize List.isEmpty f=fe at*
      generalize c.there=th at*
      generalize c.doc.size=sz at*
      generalize c.n=nn at*
      generalize c.src=x1 at*
      generalize c.seq=x2 at*
      generalize c.err=x3 at*
      apply Bool.eq_iff_iff.2
      cases a<;>cases b<;>cases vn<;>cases fs<;>cases fe<;>cases th<;>simp_all<;>omega
  by_cases e5:c.k=5
  ·
    refine (refSnd_5 w c e5 HE (HQ _ _ (isMsg_of (hbn 5 (by decide) (by decide)) he hv0 hn (th:=false) (by decide) (by decide) (by decide) (by decide) (by decide) (by decide)) rfl)).mono fun e' w' hx=> ?_
    obtain ⟨h1,h2⟩:=hx
    refine ⟨?_,h2⟩
    rw [h1]
    congr 2
    clear HE HF HQ h1 h2
    simp only [rsnd,sameMs,sameB,msgSound,sndM,sameM,e5,bringsB,numberedB,hdoc,eqB_self,eqB_nil]
    generalize enNone e=a at*
    generalize enSound e=b at*
    generalize eqv v V.none=vn at*
    clear hn he0 hv0 hbn hb0 hdoc he hv hf hb
    generalize fieldsSound f=fs at*
    generalize List.isEmpty f=fe at*
    generalize c.there=th at*
    generalize c.doc.size=sz at*
    generalize c.n=nn at*
    generalize c.src=x1 at*
    generalize c.seq=x2 at*
    generalize c.err=x3 at*
    apply Bool.eq_iff_iff.2
    cases a<;>cases b<;>cases vn<;>cases fs<;>cases fe<;>cases th<;>simp_all<;>omega
  by_cases e6:c.k=6
  ·
    refine (refSnd_6 w c e6 (HQ _ _ (isMsg_of (hb0 6 (by decide) (by decide)) he0 hv0 hn (th:=false) (hb.s0) (hb.s1) (hb.q0) (hb.q1) (hb.e0) (hb.e1)) rfl)).mono fun e' w' hx=> ?_
    obtain ⟨h1,h2⟩:=hx
    refine ⟨?_,h2⟩
    rw [h1]
    congr 2
    clear HE HF HQ h1 h2
    simp only [rsnd,sameMs,sameB,msgSound,sndM,sameM,e6,bringsB,numberedB,hdoc, ←enNone_eq,eqB_nil]
    generalize enNone e=a at*
    generalize enSound e=b at*
    generalize eqv v V.none=vn at*
    clear hn he0 hv0 hbn hb0 hdoc he hv hf hb
    generalize fieldsSound f=fs at*
    generalize List.isEmpty f=fe at*
    generalize c.there=th at*
    generalize c.doc.size=sz at*
    generalize c.n=nn at*
    generalize c.src=x1 at*
    generalize c.seq=x2 at*
    generalize c.err=x3 at*
    apply Bool.eq_iff_iff.2
    cases a<;>cases b<;>cases vn<;>cases fs<;>cases fe<;>cases th<;>simp_all<;>omega
  refine (refSnd_0 w c e1 e2 e3 e4 e5 e6).mono fun e' w' ⟨h1,h2⟩=>⟨?_,h2⟩
  rw [h1]
  have:¬(1≤c.k∧c.k≤6):=by omega
  have h7:(decide (1≤c.k) && decide (c.k≤6))=false:=by
    by_cases h1:1≤c.k
    · rw [show decide (c.k≤6)=false by simp;omega];simp
    · rw [show decide (1≤c.k)=false by simp;omega];simp
  simp only [msgSound,h7,Bool.false_and]
end Go.Proofs.YthceefjafklcmaaGreatDoor
namespace Go.Proofs.YthceefjafklcmaaGreatDoor
open Go.RowKit
theorem below_drawA (w:World) (o:Obj):Below w.heap.size w.drew (w.alloc o).drew:=(Below.refl w.heap.size w.drew).alloc (Nat.le_refl _) o
theorem step_storeM {ops:Array Oper} {o:Oper} {a:Act} {K:Act→World→Prop} {Q:Exit→Act→World→Prop} {E:Prop} {W:World} (x y:Operand) (ho:o.op= .store 36 x y) (hw:Region.wanted o (yielded ops a.tmps)=true)
    (h:∃(b:Nat) (cs xs:List Value),a.eval x= .pointer (some ⟨b,0,none⟩)∧a.eval y= .agg xs.toArray∧BC W b cs∧cs.length=22∧xs.length=22∧xs.all (·.oneCell')=true∧∀W2,BC W2 b xs→(∀b' cs',b'≠b→BC W b' cs'→BC W2 b' cs')→RStep W W2 b→K (a.put o.dst undef) W2):if Region.wanted o (yielded ops a.tmps)=true then Oper.wp Tryz.prog o a W K Q else E:=by
  obtain ⟨b,cs,xs,hx,hy,hb,hc,hl,h1,h⟩:=h
  rw [if_pos hw]
  refine wp_store_mid _ x y ho b 0 _ hx hy (thereM hb (by simp [hc,hl])) (by rw [minfo];simp [hl]) (all_oneCell_toArray (List.all_eq_true.1 h1)) ?_
  have e:xs.toArray.toList=xs:=by simp
  refine h _ (by rw [e];exact bc_setCells xs [] cs _ (by omega) hb) (fun b' cs' hne hb'=>bc_far hne _ _ _ hb') ?_
  have hq:∀(vs:List Value) (o:Nat) (W:World),(W.setCells b o vs).os=W.os∧(W.setCells b o vs).tape=W.tape∧(W.setCells b o vs).output=W.output:=by
    intro vs
    induction vs with
    |nil=>exact fun _ _=>⟨rfl,rfl,rfl⟩
    |cons v vs ih=>exact fun o W=>ih (o+1) (W.setCell ⟨b,o,none⟩ v)
  obtain ⟨q1,q2,q3⟩:=hq xs.toArray.toList 0 W
  exact ⟨q1,q2,q3,by rw [size_setCells];exact Nat.le_refl _,fun k _ hk=>heap_setCells_far hk _ _ _⟩
theorem results_refDec {tmps:Array Value} {W:World} {b:Nat} {c:MC} {x:Value} (ht:tmps[2]? =some (.pointer (some ⟨b,0,none⟩))) (hx:tmps[3]? =some x) (h:BC W b (mcells c)):
    (results Tryz.f6 tmps).run Tryz.prog W= .ok (.tuple #[.agg (mcells c).toArray,x]) W:=by
  have h1:=run_loadVar_mid (P:=Tryz.prog) W b 0 36 (mcells c) _ h.range Tryz.underlying36 rfl minfo
  have h2:(asAddr (Value.pointer (some { block:=b,off:=0 }))).run Tryz.prog W= .ok ⟨b,0,none⟩ W:=by simp [asAddr]
  simp [results,Tryz.results6,ht,hx,h2,Result.andThen_ok,h1]
def RDPost (w:World) (bs:List UInt8) (e:Ending) (w':World):Prop:=
  (∃cm,e= .returned (.tuple #[.agg (mcells cm).toArray, .int .i64 (refDec bs).2])∧IsMsg w' w'.heap.size (refDec bs).1 cm)∧Below w.heap.size w w'
theorem refDec_short {bs:List UInt8} (hl:bs.length≤60000) (h:(textP 1 (numP 1 (bs,false)).2).2.2=true):refDec bs=(Ms.none,190):=by
  have h2:(headP bs).2.2.2.2=true:=by
    unfold headP
    dsimp only
    split
    · exact numP_short 4 _ h
    · exact h
  rw [refDec,if_neg (by omega),if_neg]
  rw [h2];simp
set_option maxHeartbeats 4000000 in
set_option maxRecDepth 100000 in
theorem rd_long (w:World) (a:Option Addr) (n c:Nat) (bs:List UInt8) (h:IsB w w.heap.size a n c bs) (hl:60000<bs.length):
    Calls Tryz.prog 6 #[.slice a n c] w (RDPost w bs):=by
  have HD:Hid (refDec bs=(Ms.none,3)):=by show _=_;rw [refDec,if_pos hl]
  have hn:60000<n:=by rw [h.len];exact hl
  clear h hl
  go_enter Tryz.func6,Tryz.ntmps6
  generalize hQ0:bodyPost _ _ _=Q0
  have HQ:=Lib.hid hQ0
  clear hQ0
  go_wp2_with (refine wp_storeM rfl _ _ rfl ?_;refine ⟨w.heap.size,mcells mzero,mcells mzero,rfl,rfl,BC.start w #[.int .u8 0, .string { data:= #[] }, .int .i64 0, .int .u8 0, .int .u32 0, .int .u32 0, .int .u8 0, .int .i64 0, .string { data:= #[] }, .slice none 0 0, .slice none 0 0, .slice none 0 0, .int .u32 0, .int .u32 0, .int .u16 0, .bool false, .int .u8 0, .int .i64 0, .string { data:= #[] }, .slice none 0 0, .slice none 0 0, .slice none 0 0] 36,rfl,rfl,rfl, ?_⟩;intro W4 bm keepf st;have HBM:=Lib.hid bm;have HST:=Lib.hid st;clear bm keepf st)
  rw [←HQ.out]
  have hb4:Below w.heap.size w W4:=((Below.refl w.heap.size w).alloc (Nat.le_refl _) (.cells #[.int .u8 0, .string { data:= #[] }, .int .i64 0, .int .u8 0, .int .u32 0, .int .u32 0, .int .u8 0, .int .i64 0, .string { data:= #[] }, .slice none 0 0, .slice none 0 0, .slice none 0 0, .int .u32 0, .int .u32 0, .int .u16 0, .bool false, .int .u8 0, .int .i64 0, .string { data:= #[] }, .slice none 0 0, .slice none 0 0, .slice none 0 0] 36)).trans (HST.out.low (Nat.le_refl _) (by simp))
  exact ⟨rfl,_,results_refDec rfl rfl HBM.out,⟨⟨mzero,by rw [HD.out];rfl,by rw [HD.out];exact isMsg_none _ _⟩,hb4⟩⟩
set_option maxHeartbeats 4000000 in
set_option maxRecDepth 100000 in
theorem rd_short0 (w:World) (a:Option Addr) (n c:Nat) (bs:List UInt8) (h:IsB w w.heap.size a n c bs) (hl:bs.length<2):
    Calls Tryz.prog 6 #[.slice a n c] w (RDPost w bs):=by
  have HD:Hid (refDec bs=(Ms.none,190)):=by
    refine refDec_short (by omega) ?_
    rcases bs with _|⟨b,_|⟨b1,r⟩⟩
    · rfl
    · have e:numP 1 ([b],false)=(b.toNat,([],false)):=by simp [numP,cutP,num]
      rw [e];rfl
    · simp at hl;omega
  have hn:n<2:=by rw [h.len];exact hl
  clear h hl
  go_enter Tryz.func6,Tryz.ntmps6
  generalize hQ0:bodyPost _ _ _=Q0
  have HQ:=Lib.hid hQ0
  clear hQ0
  go_wp2_with (refine wp_storeM rfl _ _ rfl ?_;refine ⟨w.heap.size,mcells mzero,mcells mzero,rfl,rfl,BC.start w #[.int .u8 0, .string { data:= #[] }, .int .i64 0, .int .u8 0, .int .u32 0, .int .u32 0, .int .u8 0, .int .i64 0, .string { data:= #[] }, .slice none 0 0, .slice none 0 0, .slice none 0 0, .int .u32 0, .int .u32 0, .int .u16 0, .bool false, .int .u8 0, .int .i64 0, .string { data:= #[] }, .slice none 0 0, .slice none 0 0, .slice none 0 0] 36,rfl,rfl,rfl, ?_⟩;intro W4 bm keepf st;have HBM:=Lib.hid bm;have HST:=Lib.hid st;clear bm keepf st)
  rw [←HQ.out]
  have hb4:Below w.heap.size w W4:=((Below.refl w.heap.size w).alloc (Nat.le_refl _) (.cells #[.int .u8 0, .string { data:= #[] }, .int .i64 0, .int .u8 0, .int .u32 0, .int .u32 0, .int .u8 0, .int .i64 0, .string { data:= #[] }, .slice none 0 0, .slice none 0 0, .slice none 0 0, .int .u32 0, .int .u32 0, .int .u16 0, .bool false, .int .u8 0, .int .i64 0, .string { data:= #[] }, .slice none 0 0, .slice none 0 0, .slice none 0 0] 36)).trans (HST.out.low (Nat.le_refl _) (by simp))
  exact ⟨rfl,_,results_refDec rfl rfl HBM.out,⟨⟨mzero,by rw [HD.out];rfl,by rw [HD.out];exact isMsg_none _ _⟩,hb4⟩⟩
theorem textP_two (b0 b1:UInt8) (r:List UInt8):textP 1 (numP 1 (b0::b1::r,false)).2=(⟨(cutP b1.toNat (r,false)).1.toArray⟩,(cutP b1.toNat (r,false)).2):=by
  have e:numP 1 (b0::b1::r,false)=(b0.toNat,(b1::r,false)):=by simp [numP,cutP,num]
  have e2:numP 1 (b1::r,false)=(b1.toNat,(r,false)):=by simp [numP,cutP,num]
  rw [e]
  dsimp only
  rw [textP,e2]
set_option maxHeartbeats 4000000 in
set_option maxRecDepth 100000 in
theorem rd_short1 (w:World) (a:Option Addr) (n c:Nat) (bs:List UInt8) (h:IsB w w.heap.size a n c bs) (b0 b1:UInt8) (r:List UInt8) (hbs:bs=b0::b1::r) (hl:bs.length≤60000) (hr:r.length<b1.toNat):
    Calls Tryz.prog 6 #[.slice a n c] w (RDPost w bs):=by
  have HD:Hid (refDec bs=(Ms.none,190)):=by
    refine refDec_short hl ?_
    rw [hbs,textP_two,cutP,if_pos hr]
  have hlen:n=r.length+2:=by rw [h.len,hbs];simp
  obtain ⟨ab,ao,hp0,ha,hab,hc0⟩:=h.get (show 0<n by omega)
  subst ha
  obtain ⟨ab',ao',hp1,ha',hab',hc1⟩:=h.get (show 1<n by omega)
  obtain ⟨rfl,rfl⟩:ab=ab'∧ao=ao':=by injection ha' with g;injection g with g1 g2;exact ⟨g1,g2⟩
  subst hbs
  obtain ⟨y0,hy0⟩:∃y,b0.toNat=y:=⟨_,rfl⟩
  obtain ⟨L,hL⟩:∃y,b1.toNat=y:=⟨_,rfl⟩
  replace hc0:w.cell? ⟨ab,ao,none⟩=some (.int .u8 (y0:Int)):=by rw [←hy0];exact hc0
  replace hc1:w.cell? ⟨ab,ao+1,none⟩=some (.int .u8 (L:Int)):=by rw [←hL];exact hc1
  have hL256:L<256:=by rw [←hL];exact b1.toNat_lt
  have hy256:y0<256:=by rw [←hy0];exact b0.toNat_lt
  have hwL:wrap64 (L:Int)=L:=by unfold wrap64;omega
  have hwL2:IntKind.i64.wrap (L:Int)=L:=by rw [IntKind.wrap_i64];omega
  have hn2:¬60000<n:=by simp at hl;omega
  have hLL:n - 2<L:=by omega
  have hi1:1<n:=by omega
  have hcc:=h.cap;have hcm:=h.max
  clear h hl hr hlen hp0 hp1 ha' hy0 hL hL256 hy256
  go_enter Tryz.func6,Tryz.ntmps6
  generalize hQ0:bodyPost _ _ _=Q0
  have HQ:=Lib.hid hQ0
  clear hQ0
  go_wp2_with (refine wp_storeM rfl _ _ rfl ?_;refine ⟨w.heap.size,mcells mzero,mcells mzero,rfl,rfl,BC.start w #[.int .u8 0, .string { data:= #[] }, .int .i64 0, .int .u8 0, .int .u32 0, .int .u32 0, .int .u8 0, .int .i64 0, .string { data:= #[] }, .slice none 0 0, .slice none 0 0, .slice none 0 0, .int .u32 0, .int .u32 0, .int .u16 0, .bool false, .int .u8 0, .int .i64 0, .string { data:= #[] }, .slice none 0 0, .slice none 0 0, .slice none 0 0] 36,rfl,rfl,rfl, ?_⟩;intro W4 bm keepf st;have HBM:=Lib.hid bm;have HST:=Lib.hid st;clear bm keepf st)
  rw [←HQ.out]
  have hb4:Below w.heap.size w W4:=((Below.refl w.heap.size w).alloc (Nat.le_refl _) (.cells #[.int .u8 0, .string { data:= #[] }, .int .i64 0, .int .u8 0, .int .u32 0, .int .u32 0, .int .u8 0, .int .i64 0, .string { data:= #[] }, .slice none 0 0, .slice none 0 0, .slice none 0 0, .int .u32 0, .int .u32 0, .int .u16 0, .bool false, .int .u8 0, .int .i64 0, .string { data:= #[] }, .slice none 0 0, .slice none 0 0, .slice none 0 0] 36)).trans (HST.out.low (Nat.le_refl _) (by simp))
  exact ⟨rfl,_,results_refDec rfl rfl HBM.out,⟨⟨mzero,by rw [HD.out];rfl,by rw [HD.out];exact isMsg_none _ _⟩,hb4⟩⟩
end Go.Proofs.YthceefjafklcmaaGreatDoor
