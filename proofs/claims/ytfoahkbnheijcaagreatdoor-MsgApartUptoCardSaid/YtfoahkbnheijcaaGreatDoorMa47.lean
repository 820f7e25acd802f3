/-
  Contracts of the functions that the law reaches: conciliatorlaw19.Message of a record.
-/
import Derived.Test.YtfoahkbnheijcaaGreatDoorMa46
namespace Go.Proofs.YtfoahkbnheijcaaGreatDoor
open Go.RowKit
set_option maxHeartbeats 32000000
theorem zgs {ops:Array Oper} {o:Oper} {a:Act} {K:Act->World->Prop} {Q:Exit->Act->World->Prop} {E:Prop} {W:World} (x y:Operand) (ho:o.op= .store 46 x y) (hw:Region.wanted o (yielded ops a.tmps)=true)
 (h:∃(b:Nat) (cs xs:List Value),a.eval x= .pointer (some ⟨b,0,none⟩)/\a.eval y= .agg xs.toArray/\BC W b cs/\cs.length=22/\xs.length=22/\xs.all (·.oneCell')=true/\∀W2,BC W2 b xs->(∀b' cs',b'≠b->BC W b' cs'->BC W2 b' cs')->RStep W W2 b->K (a.put o.dst undef) W2):if Region.wanted o (yielded ops a.tmps)=true then Oper.wp Tryz.prog o a W K Q else E:=by
 obtain ⟨b,cs,xs,hx,hy,hb,hc,hl,h1,h⟩:=h
 rw [if_pos hw]
 refine wp_store_mid _ x y ho b 0 _ hx hy (zaj hb (by simp [hc,hl])) (by rw [Ql];simp [hl]) (all_oneCell_toArray (List.all_eq_true.1 h1)) ?_
 have e:xs.toArray.toList=xs:=by simp
 refine h _ (by rw [e];exact Kp xs [] cs _ (by omega) hb) (fun b' cs' hne hb'=>K3 hne _ _ _ hb') ?_
 have hq:∀(vs:List Value) (o:Nat) (W:World),(W.setCells b o vs).os=W.os/\(W.setCells b o vs).tape=W.tape/\(W.setCells b o vs).output=W.output:=by
  intro vs
  induction vs with
  |nil=>exact fun _ _=>⟨rfl,rfl,rfl⟩
  |cons v vs ih=>exact fun o W=>ih (o+1) (W.setCell ⟨b,o,none⟩ v)
 obtain ⟨q1,q2,q3⟩:=hq xs.toArray.toList 0 W
 exact ⟨q1,q2,q3,by rw [zbl];exact Nat.le_refl _,fun k _ hk=>za4 hk _ _ _⟩
theorem zp6 (w:World) (o:Obj):Below w.heap.size w.drew (w.alloc o).drew:=(Below.refl w.heap.size w.drew).alloc (Nat.le_refl _) o
def mb0 (k:Int) (doc:ByteArray) (n:Int):MC:=⟨k,doc,n,ezero,0,0,0,false,VC.none,none,0,0⟩
structure MB19 (w W:World) (c:MR) (m:MC):Prop where
 r:BC W w.heap.size (mrcells { c with e:= { c.e with snd:=true },snd:=true })
 res:BC W (w.heap.size+1) (mcells mzero)
 m:BC W (w.heap.size+2) (mcells m)
 below:Below w.heap.size w W
theorem zm1 {tmps:Array Value} {W:World} {b:Nat} {c:MC} (ht:tmps[2]? =some (.pointer (some ⟨b,0,none⟩))) (h:BC W b (mcells c)):
 (results Tryz.f13 tmps).run Tryz.prog W= .ok (.agg (mcells c).toArray) W:=by
 have h1:=run_loadVar_mid (P:=Tryz.prog) W b 0 46 (mcells c) _ h.range Tryz.underlying46 rfl Ql
 have h2:(asAddr (Value.pointer (some { block:=b,off:=0 }))).run Tryz.prog W= .ok ⟨b,0,none⟩ W:=by simp [asAddr]
 simp [results,Tryz.results13,ht,h2,Result.andThen_ok,h1]
def Msg19Post (w:World) (x:Ms) (e:Ending) (w':World):Prop:=
 (∃d:MC,e= .returned (.agg (mcells d).toArray)/\IsMsg w' w'.heap.size x d)/\Below w.heap.size w w'
theorem zcn {w:World} {B:Nat} {x:Rc} {c:RC} (h:IsRec w B x c):IsRec w B { x with snd:=true } { c with snd:=true } :=by
 cases h with
 |mk _ v o a hbd hv ho ha=>exact .mk { c with snd:=true } v o a ⟨hbd.k0,hbd.k1,hbd.src0,hbd.src1,hbd.seq0,hbd.seq1⟩ hv ho ha
def setE19 (W:World) (b:Nat) (d:EC):World:=(((((((((W.setCell ⟨b,3,none⟩ (.int .u8 d.k)).setCell ⟨b,4,none⟩ (.int .u32 d.src)).setCell ⟨b,5,none⟩ (.int .u32 d.seq)).setCell ⟨b,6,none⟩ (.int .u8 d.v.k)).setCell ⟨b,7,none⟩ (.int .i64 d.v.n)).setCell ⟨b,8,none⟩ (.string d.v.s)).setCell ⟨b,9,none⟩ (.slice d.v.la d.v.ll d.v.lc)).setCell ⟨b,10,none⟩ (.slice d.v.oa d.v.ol d.v.oc)).setCell ⟨b,11,none⟩ (.slice d.oa d.ol d.oc))
theorem zff (W:World) (b:Nat) (d:EC):RStep W (setE19 W b d) b:=((((((((RStep.self.trans RStep.self).trans RStep.self).trans RStep.self).trans RStep.self).trans RStep.self).trans RStep.self).trans RStep.self).trans RStep.self)
theorem zfa {W:World} {b:Nat} {m:MC} (h:BC W b (mcells m)) (d:EC):BC (setE19 W b d) b (mcells { m with e:=d }):=
 (((((((((h.set (i:=3) (x:= .int .u8 d.k) (by simp [mcells])).set (i:=4) (x:= .int .u32 d.src) (by simp [mcells])).set (i:=5) (x:= .int .u32 d.seq) (by simp [mcells])).set (i:=6) (x:= .int .u8 d.v.k) (by simp [mcells])).set (i:=7) (x:= .int .i64 d.v.n) (by simp [mcells])).set (i:=8) (x:= .string d.v.s) (by simp [mcells])).set (i:=9) (x:= .slice d.v.la d.v.ll d.v.lc) (by simp [mcells])).set (i:=10) (x:= .slice d.v.oa d.v.ol d.v.oc) (by simp [mcells])).set (i:=11) (x:= .slice d.oa d.ol d.oc) (by simp [mcells]))
theorem zop {W:World} {b:Nat} {m:MC} (h:BC W b (mcells m)) (x:VC):BC (setV W b 16 x) b (mcells { m with v:=x }):=
 (((((h.set (i:=16) (x:= .int .u8 x.k) (by simp [mcells])).set (i:=17) (x:= .int .i64 x.n) (by simp [mcells])).set (i:=18) (x:= .string x.s) (by simp [mcells])).set (i:=19) (x:= .slice x.la x.ll x.lc) (by simp [mcells])).set (i:=20) (x:= .slice x.oa x.ol x.oc) (by simp [mcells]))
theorem zkn (n:Nat):(fldA n).length=n % 4:=by
 have h:=Nat.mod_lt n (show 0<4 by decide)
 simp [fldA];omega
theorem zdg {w w':World} {S S':Nat->Prop} {x:En} {d:EC} (h:IsEntry (only S w) w.heap.size x d) (hk:∀k,S k->k<w.heap.size->S' k/\w'.heap[k]? =w.heap[k]?) (hz:w.heap.size<=w'.heap.size):IsEntry (only S' w') w'.heap.size x d:=by
 cases h with
 |mk d v l hb hv ho=>exact .mk d v l hb ((hv.sub (Zf hk)).more hz) ((ho.sub (Zf hk)).more hz)
theorem zgi {w w':World} {B:Nat} {x:En} {d:EC} (hs:Shows w w' B) {B':Nat} (hz:B<=B') (h:IsEntry w B x d):IsEntry w' B' x d:=by
 cases h with
 |mk d v l hb hv ho=>exact .mk d v l hb ((hv.sub hs).more hz) ((ho.sub hs).more hz)
theorem IsStrs.sub19 {w w':World} {B:Nat} {l:List ByteArray} {a:Option Addr} {n c:Nat} (h:IsStrs w B l a n c) (hs:Shows w w' B):IsStrs w' B l a n c:=by
 obtain ⟨h1,h2,h3,h4,b,o,h5,h6⟩:=h
 exact ⟨h1,h2,h3,h4,b,o,h5,fun i hi=>⟨hs _ _ _ (h5 (by omega)).2 (h6 i hi).1,(h6 i hi).2⟩⟩
theorem X0 {w W W9:World} {x:Ms} {d:MC} {A:Act} (hA:A.defers= []) (ht:A.tmps[2]? =some (.pointer (some ⟨w.heap.size+1,0,none⟩))) (hI:IsMsg (only (fun b=>b≠w.heap.size+1) W) W.heap.size x d) (hbl:Below w.heap.size w W) (_hz:w.heap.size+1<W.heap.size) (bm:BC W9 (w.heap.size+1) (mcells d)) (st:RStep W W9 (w.heap.size+1)):
 bodyPost Tryz.prog Tryz.f13 (Msg19Post w x) .ret A W9:=by
 have h1:Shows (only (fun b=>b≠w.heap.size+1) W) W9 W.heap.size:=by
  intro b o u hb hc
  obtain ⟨hs,hc⟩:=Z3 hc
  exact (World.cell?_of_block (st.block b hb hs)).trans hc
 refine ⟨hA,_,zm1 ht bm,⟨d,rfl, ?_⟩,hbl.trans (st.low (by omega) hbl.size)⟩
 cases hI with
 |mk d e v f g1 g2 g3 g4=>exact .mk d e v f g1 (zgi h1 st.size g2) ((g3.sub h1).more st.size) ((g4.sub19 h1).more st.size)
set_option maxRecDepth 100000 in
theorem zfc (w:World) (c:MR) (x:Mr) (h:IsMr w w.heap.size x { c with snd:=true }) (hT:Tabs w):
 Calls Tryz.prog 13 #[.agg #[.int .u8 c.k, .string c.doc, .int .i64 c.n, .int .u8 c.e.k, .int .u32 c.e.src, .int .u32 c.e.seq, .slice c.e.va c.e.vl c.e.vc, .slice c.e.oa c.e.ol c.e.oc, .slice c.e.aa c.e.al c.e.ac, .bool c.e.snd, .int .u32 c.src, .int .u32 c.seq, .int .u16 c.err, .bool c.there, .slice c.va c.vl c.vc, .slice c.fa c.fl c.fc, .bool true]] w (Msg19Post w (msgP x)):=by
 cases h with
 |mk _ er tl fl hbd he hv hf=>
 obtain ⟨R,hR⟩:∃R,Msg19Post w (msgP ⟨c.k,c.doc,c.n,er,c.src,c.seq,c.err,c.there,tl,fl⟩)=R:=⟨_,rfl⟩
 rw [hR]
 have HR:=qh hR
 have HD:=qh (show BC (w.alloc (.cells #[.int .u8 c.k, .string c.doc, .int .i64 c.n, .int .u8 c.e.k, .int .u32 c.e.src, .int .u32 c.e.seq, .slice c.e.va c.e.vl c.e.vc, .slice c.e.oa c.e.ol c.e.oc, .slice c.e.aa c.e.al c.e.ac, .bool c.e.snd, .int .u32 c.src, .int .u32 c.seq, .int .u16 c.err, .bool c.there, .slice c.va c.vl c.vc, .slice c.fa c.fl c.fc, .bool true] 31)) w.heap.size (mrcells { c with snd:=true }) from BC.start w #[.int .u8 c.k, .string c.doc, .int .i64 c.n, .int .u8 c.e.k, .int .u32 c.e.src, .int .u32 c.e.seq, .slice c.e.va c.e.vl c.e.vc, .slice c.e.oa c.e.ol c.e.oc, .slice c.e.aa c.e.al c.e.ac, .bool c.e.snd, .int .u32 c.src, .int .u32 c.seq, .int .u16 c.err, .bool c.there, .slice c.va c.vl c.vc, .slice c.fa c.fl c.fc, .bool true] 31)
 have HBN:=qh hbd
 have HE:=qh he;have HV:=qh hv;have HF:=qh hf
 have k0:=hbd.k0
 dsimp only at k0
 clear hR he hv hf hbd
 go_enter Tryz.func13,Tryz.ntmps13
 generalize hQ0:bodyPost _ _ _=Q0
 have HQ0:=qh hQ0
 clear hQ0
 go_upto_region 6 with fail
 have hbz:Below w.heap.size w ((w.alloc (.cells #[.int .u8 c.k, .string c.doc, .int .i64 c.n, .int .u8 c.e.k, .int .u32 c.e.src, .int .u32 c.e.seq, .slice c.e.va c.e.vl c.e.vc, .slice c.e.oa c.e.ol c.e.oc, .slice c.e.aa c.e.al c.e.ac, .bool c.e.snd, .int .u32 c.src, .int .u32 c.seq, .int .u16 c.err, .bool c.there, .slice c.va c.vl c.vc, .slice c.fa c.fl c.fc, .bool true] 31)).alloc (.cells #[.int .u8 0, .string { data:= #[] }, .int .i64 0, .int .u8 0, .int .u32 0, .int .u32 0, .int .u8 0, .int .i64 0, .string { data:= #[] }, .slice none 0 0, .slice none 0 0, .slice none 0 0, .int .u32 0, .int .u32 0, .int .u16 0, .bool false, .int .u8 0, .int .i64 0, .string { data:= #[] }, .slice none 0 0, .slice none 0 0, .slice none 0 0] 46)):=((Below.refl _ _).alloc (Nat.le_refl _) _).alloc (by simp) _
 have hsz:((w.alloc (.cells #[.int .u8 c.k, .string c.doc, .int .i64 c.n, .int .u8 c.e.k, .int .u32 c.e.src, .int .u32 c.e.seq, .slice c.e.va c.e.vl c.e.vc, .slice c.e.oa c.e.ol c.e.oc, .slice c.e.aa c.e.al c.e.ac, .bool c.e.snd, .int .u32 c.src, .int .u32 c.seq, .int .u16 c.err, .bool c.there, .slice c.va c.vl c.vc, .slice c.fa c.fl c.fc, .bool true] 31)).alloc (.cells #[.int .u8 0, .string { data:= #[] }, .int .i64 0, .int .u8 0, .int .u32 0, .int .u32 0, .int .u8 0, .int .i64 0, .string { data:= #[] }, .slice none 0 0, .slice none 0 0, .slice none 0 0, .int .u32 0, .int .u32 0, .int .u16 0, .bool false, .int .u8 0, .int .i64 0, .string { data:= #[] }, .slice none 0 0, .slice none 0 0, .slice none 0 0] 46)).heap.size=w.heap.size+2:=by simp
 have hbr:BC ((w.alloc (.cells #[.int .u8 c.k, .string c.doc, .int .i64 c.n, .int .u8 c.e.k, .int .u32 c.e.src, .int .u32 c.e.seq, .slice c.e.va c.e.vl c.e.vc, .slice c.e.oa c.e.ol c.e.oc, .slice c.e.aa c.e.al c.e.ac, .bool c.e.snd, .int .u32 c.src, .int .u32 c.seq, .int .u16 c.err, .bool c.there, .slice c.va c.vl c.vc, .slice c.fa c.fl c.fc, .bool true] 31)).alloc (.cells #[.int .u8 0, .string { data:= #[] }, .int .i64 0, .int .u8 0, .int .u32 0, .int .u32 0, .int .u8 0, .int .i64 0, .string { data:= #[] }, .slice none 0 0, .slice none 0 0, .slice none 0 0, .int .u32 0, .int .u32 0, .int .u16 0, .bool false, .int .u8 0, .int .i64 0, .string { data:= #[] }, .slice none 0 0, .slice none 0 0, .slice none 0 0] 46)) w.heap.size (mrcells { c with snd:=true }):=HD.out.keep ((Below.refl _ _).alloc (Nat.le_refl _) _) (by simp)
 have hbq:BC ((w.alloc (.cells #[.int .u8 c.k, .string c.doc, .int .i64 c.n, .int .u8 c.e.k, .int .u32 c.e.src, .int .u32 c.e.seq, .slice c.e.va c.e.vl c.e.vc, .slice c.e.oa c.e.ol c.e.oc, .slice c.e.aa c.e.al c.e.ac, .bool c.e.snd, .int .u32 c.src, .int .u32 c.seq, .int .u16 c.err, .bool c.there, .slice c.va c.vl c.vc, .slice c.fa c.fl c.fc, .bool true] 31)).alloc (.cells #[.int .u8 0, .string { data:= #[] }, .int .i64 0, .int .u8 0, .int .u32 0, .int .u32 0, .int .u8 0, .int .i64 0, .string { data:= #[] }, .slice none 0 0, .slice none 0 0, .slice none 0 0, .int .u32 0, .int .u32 0, .int .u16 0, .bool false, .int .u8 0, .int .i64 0, .string { data:= #[] }, .slice none 0 0, .slice none 0 0, .slice none 0 0] 46)) (w.heap.size+1) (mcells mzero):=by
  have h1:=BC.start (w.alloc (.cells #[.int .u8 c.k, .string c.doc, .int .i64 c.n, .int .u8 c.e.k, .int .u32 c.e.src, .int .u32 c.e.seq, .slice c.e.va c.e.vl c.e.vc, .slice c.e.oa c.e.ol c.e.oc, .slice c.e.aa c.e.al c.e.ac, .bool c.e.snd, .int .u32 c.src, .int .u32 c.seq, .int .u16 c.err, .bool c.there, .slice c.va c.vl c.vc, .slice c.fa c.fl c.fc, .bool true] 31)) #[.int .u8 0, .string { data:= #[] }, .int .i64 0, .int .u8 0, .int .u32 0, .int .u32 0, .int .u8 0, .int .i64 0, .string { data:= #[] }, .slice none 0 0, .slice none 0 0, .slice none 0 0, .int .u32 0, .int .u32 0, .int .u16 0, .bool false, .int .u8 0, .int .i64 0, .string { data:= #[] }, .slice none 0 0, .slice none 0 0, .slice none 0 0] 46
  rw [World.size_alloc] at h1;exact h1
 generalize World.alloc _ _=wb at hbz hsz hbr hbq ⊢
 have hq0:=hbr.at_ 0 _ rfl;have hq1:=hbr.at_ 1 _ rfl
 have zr:=hbr.lt
 have HFB:Hid (∀W,Below wb.heap.size wb.drew W->(W.cell? ⟨w.heap.size,0,none⟩=some (.int .u8 c.k)/\W.cell? ⟨w.heap.size,1,none⟩=some (.string c.doc))):=by
  intro W hW
  have hk:∀o u,wb.cell? ⟨w.heap.size,o,none⟩=some u->W.cell? ⟨w.heap.size,o,none⟩=some u:=fun o u h=>Zd hW (Zd (Zj wb) h zr) zr
  exact ⟨hk _ _ hq0,hk _ _ hq1⟩
 clear hq0 hq1
 have HSA:Hid (0<=min (c.doc.size:Int) 19/\min (c.doc.size:Int) 19<=(c.doc.size:Int)):=by show _/\_;omega
 have HSD:Hid ((min (c.doc.size:Int) 19).toNat=min c.doc.size 19):=by show _=_;omega
 have HSE:Hid (¬9223372036854775807<1+min c.doc.size 19):=by show ¬_;omega
 obtain ⟨kk,hkk⟩:∃kk:Int,1+c.k % 6=kk:=⟨_,rfl⟩
 have HKK:Hid (IntKind.u8.wrap (1+c.k.tmod 6)=kk):=by
  show _=_
  rw [Int.tmod_eq_emod_of_nonneg k0,IntKind.wrap_u8];omega
 have HK0:Hid (1+c.k % 6=kk):=qh hkk
 clear hkk
 refine wp_region_noPanic ?_
 refine wp_region_held_drew (S:=fun W=>(W.cell? ⟨w.heap.size,0,none⟩=some (.int .u8 c.k)/\W.cell? ⟨w.heap.size,1,none⟩=some (.string c.doc))) (by kernel_rfl) (HFB.out _ (Below.refl _ _)) (fun hHeld=> ?_)
 refine wpAnyH_take (i:=0) (v:= ?_) rfl (by kernel_rfl) (by kernel_rfl) (by kernel_rfl) (fun _ _ _ h=>h) (Or.inl ⟨by rfl, ?_⟩) (by assumption) ?_
 rotate_left
 .intro w' hSw
  obtain ⟨s1,s2⟩:=hSw
  go_simp
  all_goals first|(rw [if_neg HSE.out])|(rw [if_pos HSA.out,HSD.out])|(rw [HKK.out])|(with_reducible rfl)
 refine wpAnyH_take (i:=1) (v:= ?_) rfl (by kernel_rfl) (by kernel_rfl) (by kernel_rfl) (fun _ _ _ h=>h) (Or.inl ⟨by rfl, ?_⟩) (by assumption) ?_
 rotate_left
 .intro w' hSw
  obtain ⟨s1,s2⟩:=hSw
  go_simp
  all_goals first|(rw [if_neg HSE.out])|(rw [if_pos HSA.out,HSD.out])|(rw [HKK.out])|(with_reducible rfl)
 refine wpAnyH_take (i:=2) (v:= ?_) rfl (by kernel_rfl) (by kernel_rfl) (by kernel_rfl) (fun _ _ _ h=>h) (Or.inl ⟨by rfl, ?_⟩) (by assumption) ?_
 rotate_left
 .intro w' hSw
  obtain ⟨s1,s2⟩:=hSw
  go_simp
  all_goals first|(rw [if_neg HSE.out])|(rw [if_pos HSA.out,HSD.out])|(rw [HKK.out])|(with_reducible rfl)
 refine wpAnyH_take (i:=3) (v:= ?_) rfl (by kernel_rfl) (by kernel_rfl) (by kernel_rfl) (fun _ _ _ h=>h) (Or.inl ⟨by rfl, ?_⟩) (by assumption) ?_
 rotate_left
 .intro w' hSw
  obtain ⟨s1,s2⟩:=hSw
  go_simp
  all_goals first|(rw [if_neg HSE.out])|(rw [if_pos HSA.out,HSD.out])|(rw [HKK.out])|(with_reducible rfl)
 refine wpAnyH_take (i:=4) (v:= ?_) rfl (by kernel_rfl) (by kernel_rfl) (by kernel_rfl) (fun _ _ _ h=>h) (Or.inl ⟨by rfl, ?_⟩) (by assumption) ?_
 rotate_left
 .intro w' hSw
  obtain ⟨s1,s2⟩:=hSw
  go_simp
  all_goals first|(rw [if_neg HSE.out])|(rw [if_pos HSA.out,HSD.out])|(rw [HKK.out])|(with_reducible rfl)
 refine wpAnyH_take (i:=5) (v:= ?_) rfl (by kernel_rfl) (by kernel_rfl) (by kernel_rfl) (fun _ _ _ h=>h) (Or.inl ⟨by rfl, ?_⟩) (by assumption) ?_
 rotate_left
 .intro w' hSw
  obtain ⟨s1,s2⟩:=hSw
  go_simp
  all_goals first|(rw [if_neg HSE.out])|(rw [if_pos HSA.out,HSD.out])|(rw [HKK.out])|(with_reducible rfl)
 refine wpAnyH_take (i:=6) (v:= ?_) rfl (by kernel_rfl) (by kernel_rfl) (by kernel_rfl) (fun _ _ _ h=>h) (Or.inl ⟨by rfl, ?_⟩) (by assumption) ?_
 rotate_left
 .intro w' hSw
  obtain ⟨s1,s2⟩:=hSw
  go_simp
  all_goals first|(rw [if_neg HSE.out])|(rw [if_pos HSA.out,HSD.out])|(rw [HKK.out])|(with_reducible rfl)
 refine wpAnyH_take (i:=7) (v:= ?_) rfl (by kernel_rfl) (by kernel_rfl) (by kernel_rfl) (fun _ _ _ h=>h) (Or.inl ⟨by rfl, ?_⟩) (by assumption) ?_
 rotate_left
 .intro w' hSw
  obtain ⟨s1,s2⟩:=hSw
  go_simp
  all_goals first|(rw [if_neg HSE.out])|(rw [if_pos HSA.out,HSD.out])|(rw [HKK.out])|(with_reducible rfl)
 refine wpAnyH_take (i:=8) (v:= ?_) rfl (by kernel_rfl) (by kernel_rfl) (by kernel_rfl) (fun _ _ _ h=>h) (Or.inl ⟨by rfl, ?_⟩) (by assumption) ?_
 rotate_left
 .intro w' hSw
  obtain ⟨s1,s2⟩:=hSw
  go_simp
  all_goals first|(rw [if_neg HSE.out])|(rw [if_pos HSA.out,HSD.out])|(rw [HKK.out])|(with_reducible rfl)
 refine wpAnyH_take (i:=9) (v:= ?_) rfl (by kernel_rfl) (by kernel_rfl) (by kernel_rfl) (fun _ _ _ h=>h) (Or.inl ⟨by rfl, ?_⟩) (by assumption) ?_
 rotate_left
 .intro w' hSw
  obtain ⟨s1,s2⟩:=hSw
  go_simp
  all_goals first|(rw [if_neg HSE.out])|(rw [if_pos HSA.out,HSD.out])|(rw [HKK.out])|(with_reducible rfl)
 refine wpAnyH_take (i:=10) (v:= ?_) rfl (by kernel_rfl) (by kernel_rfl) (by kernel_rfl) (fun _ _ _ h=>h) (Or.inl ⟨by rfl, ?_⟩) (by assumption) ?_
 rotate_left
 .intro w' hSw
  obtain ⟨s1,s2⟩:=hSw
  go_simp
  all_goals first|(rw [if_neg HSE.out])|(rw [if_pos HSA.out,HSD.out])|(rw [HKK.out])|(with_reducible rfl)
 refine wpAnyH_take (i:=11) (v:= ?_) rfl (by kernel_rfl) (by kernel_rfl) (by kernel_rfl) (fun _ _ _ h=>h) (Or.inl ⟨by rfl, ?_⟩) (by assumption) ?_
 rotate_left
 .intro w' hSw
  obtain ⟨s1,s2⟩:=hSw
  go_simp
  all_goals first|(rw [if_neg HSE.out])|(rw [if_pos HSA.out,HSD.out])|(rw [HKK.out])|(with_reducible rfl)
 refine wpAnyH_take (i:=12) (v:= ?_) rfl (by kernel_rfl) (by kernel_rfl) (by kernel_rfl) (fun _ _ _ h=>h) (Or.inl ⟨by rfl, ?_⟩) (by assumption) ?_
 rotate_left
 .intro w' hSw
  obtain ⟨s1,s2⟩:=hSw
  go_simp
  all_goals first|(rw [if_neg HSE.out])|(rw [if_pos HSA.out,HSD.out])|(rw [HKK.out])|(with_reducible rfl)
 refine wpAnyH_ready (rs:= [13]) (by kernel_rfl) (by simp) ?_
 refine AllReadyH.cons rfl (fun K hK=> ?_) AllReadyH.nil
 go_simp
 refine hK.out _ _ ?_ (fun hHeld2=> ?_)
 .exact HFB.out _ (zp6 _ _)
 clear hK K hHeld
 have hnew:BC (wb.alloc (.cells #[.int .u8 0, .string { data:= #[] }, .int .i64 0, .int .u8 0, .int .u32 0, .int .u32 0, .int .u8 0, .int .i64 0, .string { data:= #[] }, .slice none 0 0, .slice none 0 0, .slice none 0 0, .int .u32 0, .int .u32 0, .int .u16 0, .bool false, .int .u8 0, .int .i64 0, .string { data:= #[] }, .slice none 0 0, .slice none 0 0, .slice none 0 0] 46)).drew (w.heap.size+2) (mcells mzero):=by rw [<-hsz];exact Yo (BC.start wb #[.int .u8 0, .string { data:= #[] }, .int .i64 0, .int .u8 0, .int .u32 0, .int .u32 0, .int .u8 0, .int .i64 0, .string { data:= #[] }, .slice none 0 0, .slice none 0 0, .slice none 0 0, .int .u32 0, .int .u32 0, .int .u16 0, .bool false, .int .u8 0, .int .i64 0, .string { data:= #[] }, .slice none 0 0, .slice none 0 0, .slice none 0 0] 46)
 have br2:BC (wb.alloc (.cells #[.int .u8 0, .string { data:= #[] }, .int .i64 0, .int .u8 0, .int .u32 0, .int .u32 0, .int .u8 0, .int .i64 0, .string { data:= #[] }, .slice none 0 0, .slice none 0 0, .slice none 0 0, .int .u32 0, .int .u32 0, .int .u16 0, .bool false, .int .u8 0, .int .i64 0, .string { data:= #[] }, .slice none 0 0, .slice none 0 0, .slice none 0 0] 46)).drew w.heap.size (mrcells { c with snd:=true }):=Yo (hbr.keep ((Below.refl _ _).alloc (Nat.le_refl _) _) hbr.lt)
 have bq2:BC (wb.alloc (.cells #[.int .u8 0, .string { data:= #[] }, .int .i64 0, .int .u8 0, .int .u32 0, .int .u32 0, .int .u8 0, .int .i64 0, .string { data:= #[] }, .slice none 0 0, .slice none 0 0, .slice none 0 0, .int .u32 0, .int .u32 0, .int .u16 0, .bool false, .int .u8 0, .int .i64 0, .string { data:= #[] }, .slice none 0 0, .slice none 0 0, .slice none 0 0] 46)).drew (w.heap.size+1) (mcells mzero):=Yo (hbq.keep ((Below.refl _ _).alloc (Nat.le_refl _) _) hbq.lt)
 have hbz2:Below w.heap.size w (wb.alloc (.cells #[.int .u8 0, .string { data:= #[] }, .int .i64 0, .int .u8 0, .int .u32 0, .int .u32 0, .int .u8 0, .int .i64 0, .string { data:= #[] }, .slice none 0 0, .slice none 0 0, .slice none 0 0, .int .u32 0, .int .u32 0, .int .u16 0, .bool false, .int .u8 0, .int .i64 0, .string { data:= #[] }, .slice none 0 0, .slice none 0 0, .slice none 0 0] 46)).drew:=(hbz.alloc (by rw [hsz];exact Nat.le_add_right _ _) _).drew
 refine wpAnyH_ready (rs:= [14]) (by kernel_rfl) (by simp) ?_
 refine AllReadyH.cons rfl (fun K hK=> ?_) AllReadyH.nil
 refine zgs _ _ rfl (by rfl) ⟨w.heap.size+2,mcells mzero,mcells (mb0 kk (docP c.doc) 0),by rw [<-hsz];rfl,rfl,hnew,rfl,rfl,rfl, ?_⟩
 intro W5 hM5 keepf st
 have hR5:=keepf _ _ (by omega) br2
 have hQ5:=keepf _ _ (by omega) bq2
 have hB5:Below w.heap.size w W5:=hbz2.trans (st.low (by omega) (by have:=hbz2.size;omega))
 refine hK.out _ _ ⟨hR5.at_ 0 _ rfl,hR5.at_ 1 _ rfl⟩ (fun hHeld3=> ?_)
 clear hK K hHeld2 hHeld3 hnew br2 bq2 hbz hbz2 keepf st HFB HSA HSD HSE HKK zr
 refine wpAnyH_done (by kernel_rfl) ?_ _
 refine NoPanic.normal ?_
 dsimp only [Act.put]
 have z9:=hR5.at_ 9 _ rfl;have g9:=hR5.fr 9
 have m0:=hM5.at_ 0 _ rfl
 have zr:=hR5.lt;have zm:=hM5.lt
 have h5:MB19 w (W5.setCell ⟨w.heap.size,9,none⟩ (.bool true)) c (mb0 kk (docP c.doc) 0):=by
  have hs:=hR5.set (i:=9) (x:= .bool true) (by simp [mrcells])
  exact ⟨hs,hQ5.far (by omega),hM5.far (by omega),hB5.set_ (Nat.le_refl _)⟩
 have H5:=qh h5
 clear h5 hR5 hQ5 hM5 hB5
 go_upto_region 9 with fail
 generalize World.setCell _ _ _=W6 at H5 ⊢
 clear z9 g9 m0 zr zm
 have R:=H5.out.r;have M:=H5.out.m;have Q:=H5.out.res
 have q2:=R.at_ 2 _ rfl;have q3:=R.at_ 3 _ rfl;have q4:=R.at_ 4 _ rfl;have q5:=R.at_ 5 _ rfl;have q6:=R.at_ 6 _ rfl;have q7:=R.at_ 7 _ rfl;have q8:=R.at_ 8 _ rfl;have q9:=R.at_ 9 _ rfl;have q10:=R.at_ 10 _ rfl;have q11:=R.at_ 11 _ rfl;have q12:=R.at_ 12 _ rfl;have q13:=R.at_ 13 _ rfl;have q14:=R.at_ 14 _ rfl;have q15:=R.at_ 15 _ rfl
 have p2:=M.at_ 2 _ rfl;have p12:=M.at_ 12 _ rfl;have p13:=M.at_ 13 _ rfl;have p14:=M.at_ 14 _ rfl;have p15:=M.at_ 15 _ rfl;have p21:=M.at_ 21 _ rfl
 have g2:=M.fr 2;have g12:=M.fr 12;have g13:=M.fr 13;have g14:=M.fr 14;have g15:=M.fr 15;have g21:=M.fr 21
 have zr:=R.lt;have zq:=Q.lt;have zm:=M.lt
 clear R M Q
 have hcase:(kk=1/\c.k % 6=0)∨(kk=2/\c.k % 6=1)∨(kk=3/\c.k % 6=2)∨(kk=4/\c.k % 6=3)∨(kk=5/\c.k % 6=4)∨(kk=6/\c.k % 6=5):=by have:=HK0.out;omega
 rcases hcase with ⟨rfl,hm⟩|⟨rfl,hm⟩|⟨rfl,hm⟩|⟨rfl,hm⟩|⟨rfl,hm⟩|⟨rfl,hm⟩
 .have hx:msgP ⟨c.k,c.doc,c.n,er,c.src,c.seq,c.err,c.there,tl,fl⟩=⟨1,docP c.doc,((max c.n (-1)).tmod 5001),En.none,0,0,0,false,V.none,fldA fl.length⟩:=by rw [msgP,if_pos hm]
  have HX:=qh hx
  clear hx hm
  have HMM:Hid (BC ((((W6.setCell ⟨w.heap.size+2,2,none⟩ (.int .i64 ((max c.n (-1)).tmod 5001))).setCell ⟨w.heap.size+2,21,none⟩ (.slice (some ⟨W6.heap.size,0,none⟩) (c.fl % 4) 3)).alloc (.cells #[.string { data:= #[97] }, .string { data:= #[98] }, .string { data:= #[99] }] 9))) (w.heap.size+2) (mcells { mb0 1 (docP c.doc) ((max c.n (-1)).tmod 5001) with fa:=some ⟨W6.heap.size,0,none⟩,fl:=c.fl % 4,fc:=3 })):=(((H5.out.m.set (i:=2) (x:= .int .i64 ((max c.n (-1)).tmod 5001)) (by simp [mcells])).set (i:=21) (x:= .slice (some ⟨W6.heap.size,0,none⟩) (c.fl % 4) 3) (by simp [mcells])).keep ((Below.refl _ _).alloc (Nat.le_refl _) _) (by simp;omega))
  have HQQ:Hid (BC ((((W6.setCell ⟨w.heap.size+2,2,none⟩ (.int .i64 ((max c.n (-1)).tmod 5001))).setCell ⟨w.heap.size+2,21,none⟩ (.slice (some ⟨W6.heap.size,0,none⟩) (c.fl % 4) 3)).alloc (.cells #[.string { data:= #[97] }, .string { data:= #[98] }, .string { data:= #[99] }] 9))) (w.heap.size+1) (mcells mzero)):=(((H5.out.res.far (by omega)).far (by omega)).keep ((Below.refl _ _).alloc (Nat.le_refl _) _) (by simp;omega))
  have HBB:Hid (Below w.heap.size w ((((W6.setCell ⟨w.heap.size+2,2,none⟩ (.int .i64 ((max c.n (-1)).tmod 5001))).setCell ⟨w.heap.size+2,21,none⟩ (.slice (some ⟨W6.heap.size,0,none⟩) (c.fl % 4) 3)).alloc (.cells #[.string { data:= #[97] }, .string { data:= #[98] }, .string { data:= #[99] }] 9)))):=(((H5.out.below.set_ (by omega)).set_ (by omega)).alloc (by simp;omega) _)
  go_wp2_with (first|(refine Zp rfl _ rfl ?_;refine ⟨w.heap.size+2,mcells ({ mb0 1 (docP c.doc) ((max c.n (-1)).tmod 5001) with fa:=some ⟨W6.heap.size,0,none⟩,fl:=c.fl % 4,fc:=3 }),rfl,rfl,HMM.out, ?_⟩)|(refine Zw rfl _ _ rfl ?_;refine ⟨w.heap.size+1,mcells mzero,mcells ({ mb0 1 (docP c.doc) ((max c.n (-1)).tmod 5001) with fa:=some ⟨W6.heap.size,0,none⟩,fl:=c.fl % 4,fc:=3 }),rfl,rfl,HQQ.out,rfl,rfl,rfl, ?_⟩;intro W9 bm9 keepf9 st9;have HBM:=qh bm9;have HST:=qh st9;clear bm9 keepf9 st9))
  rw [<-HQ0.out, <-HR.out,HX.out]
  have t1:=Xp c.n (-1) 5001 (by decide) (by decide) (by decide) (by decide)
  have hsz:((W6.setCell ⟨w.heap.size+2,2,none⟩ (.int .i64 ((max c.n (-1)).tmod 5001))).setCell ⟨w.heap.size+2,21,none⟩ (.slice (some ⟨W6.heap.size,0,none⟩) (c.fl % 4) 3)).heap.size=W6.heap.size:=by simp
  have hnb:=BC.start ((W6.setCell ⟨w.heap.size+2,2,none⟩ (.int .i64 ((max c.n (-1)).tmod 5001))).setCell ⟨w.heap.size+2,21,none⟩ (.slice (some ⟨W6.heap.size,0,none⟩) (c.fl % 4) 3)) #[.string { data:= #[97] }, .string { data:= #[98] }, .string { data:= #[99] }] 9
  rw [hsz] at hnb
  have hstr:IsStrs (only (fun b=>b≠w.heap.size+1) (((W6.setCell ⟨w.heap.size+2,2,none⟩ (.int .i64 ((max c.n (-1)).tmod 5001))).setCell ⟨w.heap.size+2,21,none⟩ (.slice (some ⟨W6.heap.size,0,none⟩) (c.fl % 4) 3)).alloc (.cells #[.string { data:= #[97] }, .string { data:= #[98] }, .string { data:= #[99] }] 9))) (((W6.setCell ⟨w.heap.size+2,2,none⟩ (.int .i64 ((max c.n (-1)).tmod 5001))).setCell ⟨w.heap.size+2,21,none⟩ (.slice (some ⟨W6.heap.size,0,none⟩) (c.fl % 4) 3)).alloc (.cells #[.string { data:= #[97] }, .string { data:= #[98] }, .string { data:= #[99] }] 9)).heap.size (fldA fl.length) (some ⟨W6.heap.size,0,none⟩) (c.fl % 4) 3:=by
   have hln:=HF.out.len
   have hl3:=(Jw fl.length).1
   refine ⟨by rw [zkn, <-hln],by omega,by decide,by omega,W6.heap.size,0,fun _=>⟨rfl,by simp⟩,fun i hi=>⟨?_,by rw [(Jw fl.length).2 _ (List.getElem_mem hi)];decide⟩⟩
   refine Z4 (by omega) ?_
   rw [Nat.zero_add]
   refine hnb.at_ i _ ?_
   have h3:i<3:=by omega
   have h4:(fldA fl.length)[i] =([⟨#[97]⟩,⟨#[98]⟩,⟨#[99]⟩] :List ByteArray)[i]'h3:=by simp [fldA]
   rw [h4]
   match i,h3 with
   |0,_=>rfl
   |1,_=>rfl
   |2,_=>rfl
  exact X0 (d:= { mb0 1 (docP c.doc) ((max c.n (-1)).tmod 5001) with fa:=some ⟨W6.heap.size,0,none⟩,fl:=c.fl % 4,fc:=3 }) rfl rfl (.mk ({ mb0 1 (docP c.doc) ((max c.n (-1)).tmod 5001) with fa:=some ⟨W6.heap.size,0,none⟩,fl:=c.fl % 4,fc:=3 }) En.none V.none (fldA fl.length) ⟨by dsimp only [mb0];omega,by dsimp only [mb0];omega,by have:=(Yq c.doc).2;dsimp only [mb0];omega,by dsimp only [mb0];omega,by dsimp only [mb0];omega,by dsimp only [mb0];omega,by dsimp only [mb0];omega,by dsimp only [mb0];omega,by dsimp only [mb0];omega,by dsimp only [mb0];omega,by dsimp only [mb0];omega⟩ (Xq _ _) (Zo _ _) hstr) HBB.out (by simp;omega) HBM.out HST.out
 .have hx:msgP ⟨c.k,c.doc,c.n,er,c.src,c.seq,c.err,c.there,tl,fl⟩=⟨2,docP c.doc,0,En.none,0,0,0,false,V.none, []⟩:=by rw [msgP,if_neg (by dsimp only;omega),if_pos hm]
  have HX:=qh hx
  clear hx hm
  have HMM:Hid (BC (W6) (w.heap.size+2) (mcells (mb0 2 (docP c.doc) 0))):=H5.out.m
  have HQQ:Hid (BC (W6) (w.heap.size+1) (mcells mzero)):=H5.out.res
  have HBB:Hid (Below w.heap.size w (W6)):=H5.out.below
  go_wp2_with (first|(refine Zp rfl _ rfl ?_;refine ⟨w.heap.size+2,mcells ((mb0 2 (docP c.doc) 0)),rfl,rfl,HMM.out, ?_⟩)|(refine Zw rfl _ _ rfl ?_;refine ⟨w.heap.size+1,mcells mzero,mcells ((mb0 2 (docP c.doc) 0)),rfl,rfl,HQQ.out,rfl,rfl,rfl, ?_⟩;intro W9 bm9 keepf9 st9;have HBM:=qh bm9;have HST:=qh st9;clear bm9 keepf9 st9))
  rw [<-HQ0.out, <-HR.out,HX.out]
  exact X0 (d:=mb0 2 (docP c.doc) 0) rfl rfl (.mk (mb0 2 (docP c.doc) 0) En.none V.none [] ⟨by dsimp only [mb0];omega,by dsimp only [mb0];omega,by have:=(Yq c.doc).2;dsimp only [mb0];omega,by dsimp only [mb0];omega,by dsimp only [mb0];omega,by dsimp only [mb0];omega,by dsimp only [mb0];omega,by dsimp only [mb0];omega,by dsimp only [mb0];omega,by dsimp only [mb0];omega,by dsimp only [mb0];omega⟩ (Xq _ _) (Zo _ _) (IsStrs.nil _ _)) HBB.out (by omega) HBM.out HST.out
 .have hx:msgP ⟨c.k,c.doc,c.n,er,c.src,c.seq,c.err,c.there,tl,fl⟩=⟨3,docP c.doc,(max c.n 0 % 5001),entryP { er with snd:=true },0,0,0,false,V.none, []⟩:=by rw [msgP,if_neg (by dsimp only;omega),if_neg (by dsimp only;omega),if_pos hm];rw [Int.tmod_eq_emod_of_nonneg (show (0:Int)<=max c.n 0 by omega)]
  have HX:=qh hx
  clear hx hm
  have hEN:∀W,Below w.heap.size w W->W.heap.size=W6.heap.size->Calls Tryz.prog 47 #[.agg #[.int .u8 c.e.k, .int .u32 c.e.src, .int .u32 c.e.seq, .slice c.e.va c.e.vl c.e.vc, .slice c.e.oa c.e.ol c.e.oc, .slice c.e.aa c.e.al c.e.ac, .bool true]] W fun e w'=>(∃d:EC,e= .returned (.agg #[.int .u8 d.k, .int .u32 d.src, .int .u32 d.seq, .int .u8 d.v.k, .int .i64 d.v.n, .string d.v.s, .slice d.v.la d.v.ll d.v.lc, .slice d.v.oa d.v.ol d.v.oc, .slice d.oa d.ol d.oc])/\IsEntry (only (fun b=>W6.heap.size<=b) w') w'.heap.size (entryP { er with snd:=true }) d)/\Below W.heap.size W w':=fun W hW hz=>by
   have h1:=zcb W { c.e with snd:=true } { er with snd:=true } (zcn (zad HE.out hW)) (hT.below hW) rfl
   unfold EntryNew at h1
   rw [hz] at h1
   rw [hz]
   exact h1
  have HEN:=qh hEN
  clear hEN
  have HM6:Hid (BC (W6.setCell ⟨w.heap.size+2,2,none⟩ (.int .i64 (max c.n 0 % 5001))) (w.heap.size+2) (mcells (mb0 3 (docP c.doc) (max c.n 0 % 5001)))):=(H5.out.m.set (i:=2) (x:= .int .i64 (max c.n 0 % 5001)) (by simp [mcells]))
  have HQ6:Hid (BC (W6.setCell ⟨w.heap.size+2,2,none⟩ (.int .i64 (max c.n 0 % 5001))) (w.heap.size+1) (mcells mzero)):=(H5.out.res.far (by omega))
  have HB6:Hid (Below w.heap.size w (W6.setCell ⟨w.heap.size+2,2,none⟩ (.int .i64 (max c.n 0 % 5001)))):=(H5.out.below.set_ (by omega))
  go_wp2_with fail
  refine (HEN.out _ HB6.out (by simp)).mono ?_
  rintro e w7 ⟨⟨d,rfl,hI7⟩,hb7⟩
  have hM7:=HM6.out.keep hb7 HM6.out.lt
  have hQ7:=HQ6.out.keep hb7 HQ6.out.lt
  have hB7:Below w.heap.size w w7:=HB6.out.trans (hb7.mono HB6.out.size)
  have hz7:W6.heap.size<=w7.heap.size:=by have:=hb7.size;simp at this;exact this
  clear p2 p12 p13 p14 p15 p21 g2 g12 g13 g14 g15 g21 q2 q3 q4 q5 q6 q7 q8 q9 q10 q11 q12 q13 q14 q15
  have p3:=hM7.at_ 3 _ rfl;have p4:=hM7.at_ 4 _ rfl;have p5:=hM7.at_ 5 _ rfl;have p6:=hM7.at_ 6 _ rfl;have p7:=hM7.at_ 7 _ rfl;have p8:=hM7.at_ 8 _ rfl;have p9:=hM7.at_ 9 _ rfl;have p10:=hM7.at_ 10 _ rfl;have p11:=hM7.at_ 11 _ rfl
  have g3:=hM7.fr 3;have g4:=hM7.fr 4;have g5:=hM7.fr 5;have g6:=hM7.fr 6;have g7:=hM7.fr 7;have g8:=hM7.fr 8;have g9:=hM7.fr 9;have g10:=hM7.fr 10;have g11:=hM7.fr 11
  have zq7:=hQ7.lt;have zm7:=hM7.lt
  have st7:=zff w7 (w.heap.size+2) d
  have HMM:Hid (BC (setE19 w7 (w.heap.size+2) d) (w.heap.size+2) (mcells { mb0 3 (docP c.doc) (max c.n 0 % 5001) with e:=d })):=zfa hM7 d
  have HQQ:Hid (BC (setE19 w7 (w.heap.size+2) d) (w.heap.size+1) (mcells mzero)):=hQ7.next st7 (by omega)
  have HBB:Hid (Below w.heap.size w (setE19 w7 (w.heap.size+2) d)):=hB7.trans (st7.low (by omega) hB7.size)
  have HIE:Hid (IsEntry (only (fun b=>b≠w.heap.size+1) (setE19 w7 (w.heap.size+2) d)) (setE19 w7 (w.heap.size+2) d).heap.size (entryP { er with snd:=true }) d):=zdg hI7 (fun k hk hl=>⟨by omega,st7.block k hl (by omega)⟩) st7.size
  clear hM7 hQ7 hB7 hb7 hI7 st7 zr zq zm
  go_wp2_with (first|(refine Zp rfl _ rfl ?_;refine ⟨w.heap.size+2,mcells ({ mb0 3 (docP c.doc) (max c.n 0 % 5001) with e:=d }),rfl,rfl,HMM.out, ?_⟩)|(refine Zw rfl _ _ rfl ?_;refine ⟨w.heap.size+1,mcells mzero,mcells ({ mb0 3 (docP c.doc) (max c.n 0 % 5001) with e:=d }),rfl,rfl,HQQ.out,rfl,rfl,rfl, ?_⟩;intro W9 bm9 keepf9 st9;have HBM:=qh bm9;have HST:=qh st9;clear bm9 keepf9 st9))
  rw [<-HQ0.out, <-HR.out,HX.out]
  have t2:=Xp c.n 0 5001 (by decide) (by decide) (by decide) (by decide)
  rw [Int.tmod_eq_emod_of_nonneg (show (0:Int)<=max c.n 0 by omega)] at t2
  exact X0 (d:= { mb0 3 (docP c.doc) (max c.n 0 % 5001) with e:=d }) rfl rfl (.mk ({ mb0 3 (docP c.doc) (max c.n 0 % 5001) with e:=d }) (entryP { er with snd:=true }) V.none [] ⟨by dsimp only [mb0];omega,by dsimp only [mb0];omega,by have:=(Yq c.doc).2;dsimp only [mb0];omega,by dsimp only [mb0];omega,by dsimp only [mb0];omega,by dsimp only [mb0];omega,by dsimp only [mb0];omega,by dsimp only [mb0];omega,by dsimp only [mb0];omega,by dsimp only [mb0];omega,by dsimp only [mb0];omega⟩ HIE.out (Zo _ _) (IsStrs.nil _ _)) HBB.out (by have:=HQQ.out.lt;omega) HBM.out HST.out
 .have hx:msgP ⟨c.k,c.doc,c.n,er,c.src,c.seq,c.err,c.there,tl,fl⟩=⟨4,docP c.doc,(max c.n 0 % 5001),En.none,0,0,0,c.there,if c.there=true then (oneP 6 (tl.take 60)).1 else V.none, []⟩:=by rw [msgP,if_neg (by dsimp only;omega),if_neg (by dsimp only;omega),if_neg (by dsimp only;omega),if_pos hm];rw [Int.tmod_eq_emod_of_nonneg (show (0:Int)<=max c.n 0 by omega)]
  have HX:=qh hx
  clear hx hm
  obtain ⟨th,hth⟩:∃th,c.there=th:=⟨_,rfl⟩
  rw [hth] at HX HR q13
  clear hth
  cases th with
  | false=>
    have HMM:Hid (BC ((W6.setCell ⟨w.heap.size+2,2,none⟩ (.int .i64 (max c.n 0 % 5001))).setCell ⟨w.heap.size+2,15,none⟩ (.bool false)) (w.heap.size+2) (mcells ({ mb0 4 (docP c.doc) (max c.n 0 % 5001) with there:=false }))):=((H5.out.m.set (i:=2) (x:= .int .i64 (max c.n 0 % 5001)) (by simp [mcells])).set (i:=15) (x:= .bool false) (by simp [mcells]))
    have HQQ:Hid (BC ((W6.setCell ⟨w.heap.size+2,2,none⟩ (.int .i64 (max c.n 0 % 5001))).setCell ⟨w.heap.size+2,15,none⟩ (.bool false)) (w.heap.size+1) (mcells mzero)):=((H5.out.res.far (by omega)).far (by omega))
    have HBB:Hid (Below w.heap.size w ((W6.setCell ⟨w.heap.size+2,2,none⟩ (.int .i64 (max c.n 0 % 5001))).setCell ⟨w.heap.size+2,15,none⟩ (.bool false))):=((H5.out.below.set_ (by omega)).set_ (by omega))
    go_wp2_with (first|(refine Zp rfl _ rfl ?_;refine ⟨w.heap.size+2,mcells ({ mb0 4 (docP c.doc) (max c.n 0 % 5001) with there:=false }),rfl,rfl,HMM.out, ?_⟩)|(refine Zw rfl _ _ rfl ?_;refine ⟨w.heap.size+1,mcells mzero,mcells ({ mb0 4 (docP c.doc) (max c.n 0 % 5001) with there:=false }),rfl,rfl,HQQ.out,rfl,rfl,rfl, ?_⟩;intro W9 bm9 keepf9 st9;have HBM:=qh bm9;have HST:=qh st9;clear bm9 keepf9 st9))
    rw [<-HQ0.out, <-HR.out,HX.out]
    have t2:=Xp c.n 0 5001 (by decide) (by decide) (by decide) (by decide)
    rw [Int.tmod_eq_emod_of_nonneg (show (0:Int)<=max c.n 0 by omega)] at t2
    exact X0 (d:= { mb0 4 (docP c.doc) (max c.n 0 % 5001) with there:=false }) rfl rfl (.mk ({ mb0 4 (docP c.doc) (max c.n 0 % 5001) with there:=false }) En.none V.none [] ⟨by dsimp only [mb0];omega,by dsimp only [mb0];omega,by have:=(Yq c.doc).2;dsimp only [mb0];omega,by dsimp only [mb0];omega,by dsimp only [mb0];omega,by dsimp only [mb0];omega,by dsimp only [mb0];omega,by dsimp only [mb0];omega,by dsimp only [mb0];omega,by dsimp only [mb0];omega,by dsimp only [mb0];omega⟩ (Xq _ _) (Zo _ _) (IsStrs.nil _ _)) HBB.out (by simp;omega) HBM.out HST.out
  | true=>
    have HM6:Hid (BC ((W6.setCell ⟨w.heap.size+2,2,none⟩ (.int .i64 (max c.n 0 % 5001))).setCell ⟨w.heap.size+2,15,none⟩ (.bool true)) (w.heap.size+2) (mcells ({ mb0 4 (docP c.doc) (max c.n 0 % 5001) with there:=true }))):=((H5.out.m.set (i:=2) (x:= .int .i64 (max c.n 0 % 5001)) (by simp [mcells])).set (i:=15) (x:= .bool true) (by simp [mcells]))
    have HQ6:Hid (BC ((W6.setCell ⟨w.heap.size+2,2,none⟩ (.int .i64 (max c.n 0 % 5001))).setCell ⟨w.heap.size+2,15,none⟩ (.bool true)) (w.heap.size+1) (mcells mzero)):=((H5.out.res.far (by omega)).far (by omega))
    have HB6:Hid (Below w.heap.size w ((W6.setCell ⟨w.heap.size+2,2,none⟩ (.int .i64 (max c.n 0 % 5001))).setCell ⟨w.heap.size+2,15,none⟩ (.bool true))):=((H5.out.below.set_ (by omega)).set_ (by omega))
    have hBD:∀W,Below w.heap.size w W->W.heap.size=W6.heap.size->Calls Tryz.prog 19 #[.slice c.va c.vl c.vc] W fun e w'=>(∃cv:VC,e= .returned (.agg #[.int .u8 cv.k, .int .i64 cv.n, .string cv.s, .slice cv.la cv.ll cv.lc, .slice cv.oa cv.ol cv.oc])/\IsVal (only (fun b=>W6.heap.size<=b) w') w'.heap.size (oneP 6 (tl.take 60)).1 cv)/\Below W.heap.size W w':=fun W hW hz=>by
     have h1:=Yg W tl c.va c.vl c.vc (HV.out.later_ hW)
     rw [hz] at h1
     rw [hz]
     exact h1
    have HBD:=qh hBD
    clear hBD
    go_wp2_with fail
    refine (HBD.out _ HB6.out (by simp)).mono ?_
    rintro e w7 ⟨⟨cv,rfl,hI7⟩,hb7⟩
    have hM7:=HM6.out.keep hb7 HM6.out.lt
    have hQ7:=HQ6.out.keep hb7 HQ6.out.lt
    have hB7:Below w.heap.size w w7:=HB6.out.trans (hb7.mono HB6.out.size)
    have hz7:W6.heap.size<=w7.heap.size:=by have:=hb7.size;simp at this;exact this
    clear p2 p12 p13 p14 p15 p21 g2 g12 g13 g14 g15 g21 q2 q3 q4 q5 q6 q7 q8 q9 q10 q11 q12 q13 q14 q15
    have p3:=hM7.at_ 16 _ rfl;have p4:=hM7.at_ 17 _ rfl;have p5:=hM7.at_ 18 _ rfl;have p6:=hM7.at_ 19 _ rfl;have p7:=hM7.at_ 20 _ rfl
    have g3:=hM7.fr 16;have g4:=hM7.fr 17;have g5:=hM7.fr 18;have g6:=hM7.fr 19;have g7:=hM7.fr 20
    have zq7:=hQ7.lt;have zm7:=hM7.lt
    have st7:=Zm w7 (w.heap.size+2) 16 cv
    have HMM:Hid (BC (setV w7 (w.heap.size+2) 16 cv) (w.heap.size+2) (mcells ({ mb0 4 (docP c.doc) (max c.n 0 % 5001) with there:=true,v:=cv }))):=zop hM7 cv
    have HQQ:Hid (BC (setV w7 (w.heap.size+2) 16 cv) (w.heap.size+1) (mcells mzero)):=hQ7.next st7 (by omega)
    have HBB:Hid (Below w.heap.size w (setV w7 (w.heap.size+2) 16 cv)):=hB7.trans (st7.low (by omega) hB7.size)
    have HIV:Hid (IsVal (only (fun b=>b≠w.heap.size+1) (setV w7 (w.heap.size+2) 16 cv)) (setV w7 (w.heap.size+2) 16 cv).heap.size (oneP 6 (tl.take 60)).1 cv):=Z7 hI7 rfl st7.size (fun k hk hl=>⟨by omega,st7.block k hl (by omega)⟩)
    clear hM7 hQ7 hB7 hb7 hI7 st7 zr zq zm
    go_wp2_with (first|(refine Zp rfl _ rfl ?_;refine ⟨w.heap.size+2,mcells ({ mb0 4 (docP c.doc) (max c.n 0 % 5001) with there:=true,v:=cv }),rfl,rfl,HMM.out, ?_⟩)|(refine Zw rfl _ _ rfl ?_;refine ⟨w.heap.size+1,mcells mzero,mcells ({ mb0 4 (docP c.doc) (max c.n 0 % 5001) with there:=true,v:=cv }),rfl,rfl,HQQ.out,rfl,rfl,rfl, ?_⟩;intro W9 bm9 keepf9 st9;have HBM:=qh bm9;have HST:=qh st9;clear bm9 keepf9 st9))
    rw [<-HQ0.out, <-HR.out,HX.out]
    have t2:=Xp c.n 0 5001 (by decide) (by decide) (by decide) (by decide)
    rw [Int.tmod_eq_emod_of_nonneg (show (0:Int)<=max c.n 0 by omega)] at t2
    exact X0 (d:= { mb0 4 (docP c.doc) (max c.n 0 % 5001) with there:=true,v:=cv }) rfl rfl (.mk ({ mb0 4 (docP c.doc) (max c.n 0 % 5001) with there:=true,v:=cv }) En.none (oneP 6 (tl.take 60)).1 [] ⟨by dsimp only [mb0];omega,by dsimp only [mb0];omega,by have:=(Yq c.doc).2;dsimp only [mb0];omega,by dsimp only [mb0];omega,by dsimp only [mb0];omega,by dsimp only [mb0];omega,by dsimp only [mb0];omega,by dsimp only [mb0];omega,by dsimp only [mb0];omega,by dsimp only [mb0];omega,by dsimp only [mb0];omega⟩ (Xq _ _) HIV.out (IsStrs.nil _ _)) HBB.out (by have:=HQQ.out.lt;omega) HBM.out HST.out
 .have hx:msgP ⟨c.k,c.doc,c.n,er,c.src,c.seq,c.err,c.there,tl,fl⟩=⟨5,docP c.doc,(max c.n 0 % 5000),entryP { er with snd:=true },0,0,0,false,V.none, []⟩:=by rw [msgP,if_neg (by dsimp only;omega),if_neg (by dsimp only;omega),if_neg (by dsimp only;omega),if_neg (by dsimp only;omega),if_pos hm];rw [Int.tmod_eq_emod_of_nonneg (show (0:Int)<=max c.n 0 by omega)]
  have HX:=qh hx
  clear hx hm
  have hEN:∀W,Below w.heap.size w W->W.heap.size=W6.heap.size->Calls Tryz.prog 47 #[.agg #[.int .u8 c.e.k, .int .u32 c.e.src, .int .u32 c.e.seq, .slice c.e.va c.e.vl c.e.vc, .slice c.e.oa c.e.ol c.e.oc, .slice c.e.aa c.e.al c.e.ac, .bool true]] W fun e w'=>(∃d:EC,e= .returned (.agg #[.int .u8 d.k, .int .u32 d.src, .int .u32 d.seq, .int .u8 d.v.k, .int .i64 d.v.n, .string d.v.s, .slice d.v.la d.v.ll d.v.lc, .slice d.v.oa d.v.ol d.v.oc, .slice d.oa d.ol d.oc])/\IsEntry (only (fun b=>W6.heap.size<=b) w') w'.heap.size (entryP { er with snd:=true }) d)/\Below W.heap.size W w':=fun W hW hz=>by
   have h1:=zcb W { c.e with snd:=true } { er with snd:=true } (zcn (zad HE.out hW)) (hT.below hW) rfl
   unfold EntryNew at h1
   rw [hz] at h1
   rw [hz]
   exact h1
  have HEN:=qh hEN
  clear hEN
  have HM6:Hid (BC (W6.setCell ⟨w.heap.size+2,2,none⟩ (.int .i64 (max c.n 0 % 5000))) (w.heap.size+2) (mcells (mb0 5 (docP c.doc) (max c.n 0 % 5000)))):=(H5.out.m.set (i:=2) (x:= .int .i64 (max c.n 0 % 5000)) (by simp [mcells]))
  have HQ6:Hid (BC (W6.setCell ⟨w.heap.size+2,2,none⟩ (.int .i64 (max c.n 0 % 5000))) (w.heap.size+1) (mcells mzero)):=(H5.out.res.far (by omega))
  have HB6:Hid (Below w.heap.size w (W6.setCell ⟨w.heap.size+2,2,none⟩ (.int .i64 (max c.n 0 % 5000)))):=(H5.out.below.set_ (by omega))
  go_wp2_with fail
  refine (HEN.out _ HB6.out (by simp)).mono ?_
  rintro e w7 ⟨⟨d,rfl,hI7⟩,hb7⟩
  have hM7:=HM6.out.keep hb7 HM6.out.lt
  have hQ7:=HQ6.out.keep hb7 HQ6.out.lt
  have hB7:Below w.heap.size w w7:=HB6.out.trans (hb7.mono HB6.out.size)
  have hz7:W6.heap.size<=w7.heap.size:=by have:=hb7.size;simp at this;exact this
  clear p2 p12 p13 p14 p15 p21 g2 g12 g13 g14 g15 g21 q2 q3 q4 q5 q6 q7 q8 q9 q10 q11 q12 q13 q14 q15
  have p3:=hM7.at_ 3 _ rfl;have p4:=hM7.at_ 4 _ rfl;have p5:=hM7.at_ 5 _ rfl;have p6:=hM7.at_ 6 _ rfl;have p7:=hM7.at_ 7 _ rfl;have p8:=hM7.at_ 8 _ rfl;have p9:=hM7.at_ 9 _ rfl;have p10:=hM7.at_ 10 _ rfl;have p11:=hM7.at_ 11 _ rfl
  have g3:=hM7.fr 3;have g4:=hM7.fr 4;have g5:=hM7.fr 5;have g6:=hM7.fr 6;have g7:=hM7.fr 7;have g8:=hM7.fr 8;have g9:=hM7.fr 9;have g10:=hM7.fr 10;have g11:=hM7.fr 11
  have zq7:=hQ7.lt;have zm7:=hM7.lt
  have st7:=zff w7 (w.heap.size+2) d
  have HMM:Hid (BC (setE19 w7 (w.heap.size+2) d) (w.heap.size+2) (mcells { mb0 5 (docP c.doc) (max c.n 0 % 5000) with e:=d })):=zfa hM7 d
  have HQQ:Hid (BC (setE19 w7 (w.heap.size+2) d) (w.heap.size+1) (mcells mzero)):=hQ7.next st7 (by omega)
  have HBB:Hid (Below w.heap.size w (setE19 w7 (w.heap.size+2) d)):=hB7.trans (st7.low (by omega) hB7.size)
  have HIE:Hid (IsEntry (only (fun b=>b≠w.heap.size+1) (setE19 w7 (w.heap.size+2) d)) (setE19 w7 (w.heap.size+2) d).heap.size (entryP { er with snd:=true }) d):=zdg hI7 (fun k hk hl=>⟨by omega,st7.block k hl (by omega)⟩) st7.size
  clear hM7 hQ7 hB7 hb7 hI7 st7 zr zq zm
  go_wp2_with (first|(refine Zp rfl _ rfl ?_;refine ⟨w.heap.size+2,mcells ({ mb0 5 (docP c.doc) (max c.n 0 % 5000) with e:=d }),rfl,rfl,HMM.out, ?_⟩)|(refine Zw rfl _ _ rfl ?_;refine ⟨w.heap.size+1,mcells mzero,mcells ({ mb0 5 (docP c.doc) (max c.n 0 % 5000) with e:=d }),rfl,rfl,HQQ.out,rfl,rfl,rfl, ?_⟩;intro W9 bm9 keepf9 st9;have HBM:=qh bm9;have HST:=qh st9;clear bm9 keepf9 st9))
  rw [<-HQ0.out, <-HR.out,HX.out]
  have t2:=Xp c.n 0 5000 (by decide) (by decide) (by decide) (by decide)
  rw [Int.tmod_eq_emod_of_nonneg (show (0:Int)<=max c.n 0 by omega)] at t2
  exact X0 (d:= { mb0 5 (docP c.doc) (max c.n 0 % 5000) with e:=d }) rfl rfl (.mk ({ mb0 5 (docP c.doc) (max c.n 0 % 5000) with e:=d }) (entryP { er with snd:=true }) V.none [] ⟨by dsimp only [mb0];omega,by dsimp only [mb0];omega,by have:=(Yq c.doc).2;dsimp only [mb0];omega,by dsimp only [mb0];omega,by dsimp only [mb0];omega,by dsimp only [mb0];omega,by dsimp only [mb0];omega,by dsimp only [mb0];omega,by dsimp only [mb0];omega,by dsimp only [mb0];omega,by dsimp only [mb0];omega⟩ HIE.out (Zo _ _) (IsStrs.nil _ _)) HBB.out (by have:=HQQ.out.lt;omega) HBM.out HST.out
 .have hx:msgP ⟨c.k,c.doc,c.n,er,c.src,c.seq,c.err,c.there,tl,fl⟩=⟨6,docP c.doc,0,En.none,c.src,c.seq,max c.err 1,false,V.none, []⟩:=by rw [msgP,if_neg (by dsimp only;omega),if_neg (by dsimp only;omega),if_neg (by dsimp only;omega),if_neg (by dsimp only;omega),if_neg (by dsimp only;omega)]
  have HX:=qh hx
  clear hx hm
  have HMM:Hid (BC ((((W6.setCell ⟨w.heap.size+2,12,none⟩ (.int .u32 c.src)).setCell ⟨w.heap.size+2,13,none⟩ (.int .u32 c.seq)).setCell ⟨w.heap.size+2,14,none⟩ (.int .u16 (max c.err 1)))) (w.heap.size+2) (mcells ({ mb0 6 (docP c.doc) 0 with src:=c.src,seq:=c.seq,err:=max c.err 1 }))):=(((H5.out.m.set (i:=12) (x:= .int .u32 c.src) (by simp [mcells])).set (i:=13) (x:= .int .u32 c.seq) (by simp [mcells])).set (i:=14) (x:= .int .u16 (max c.err 1)) (by simp [mcells]))
  have HQQ:Hid (BC ((((W6.setCell ⟨w.heap.size+2,12,none⟩ (.int .u32 c.src)).setCell ⟨w.heap.size+2,13,none⟩ (.int .u32 c.seq)).setCell ⟨w.heap.size+2,14,none⟩ (.int .u16 (max c.err 1)))) (w.heap.size+1) (mcells mzero)):=(((H5.out.res.far (by omega)).far (by omega)).far (by omega))
  have HBB:Hid (Below w.heap.size w ((((W6.setCell ⟨w.heap.size+2,12,none⟩ (.int .u32 c.src)).setCell ⟨w.heap.size+2,13,none⟩ (.int .u32 c.seq)).setCell ⟨w.heap.size+2,14,none⟩ (.int .u16 (max c.err 1))))):=(((H5.out.below.set_ (by omega)).set_ (by omega)).set_ (by omega))
  go_wp2_with (first|(refine Zp rfl _ rfl ?_;refine ⟨w.heap.size+2,mcells (({ mb0 6 (docP c.doc) 0 with src:=c.src,seq:=c.seq,err:=max c.err 1 })),rfl,rfl,HMM.out, ?_⟩)|(refine Zw rfl _ _ rfl ?_;refine ⟨w.heap.size+1,mcells mzero,mcells (({ mb0 6 (docP c.doc) 0 with src:=c.src,seq:=c.seq,err:=max c.err 1 })),rfl,rfl,HQQ.out,rfl,rfl,rfl, ?_⟩;intro W9 bm9 keepf9 st9;have HBM:=qh bm9;have HST:=qh st9;clear bm9 keepf9 st9))
  rw [<-HQ0.out, <-HR.out,HX.out]
  have b1:=HBN.out.s0;have b2:=HBN.out.s1;have b3:=HBN.out.q0;have b4:=HBN.out.q1;have b5:=HBN.out.e0;have b6:=HBN.out.e1
  dsimp only at b1 b2 b3 b4 b5 b6
  exact X0 (d:= { mb0 6 (docP c.doc) 0 with src:=c.src,seq:=c.seq,err:=max c.err 1 }) rfl rfl (.mk ({ mb0 6 (docP c.doc) 0 with src:=c.src,seq:=c.seq,err:=max c.err 1 }) En.none V.none [] ⟨by dsimp only [mb0];omega,by dsimp only [mb0];omega,by have:=(Yq c.doc).2;dsimp only [mb0];omega,by dsimp only [mb0];omega,by dsimp only [mb0];omega,by dsimp only [mb0];omega,by dsimp only [mb0];omega,by dsimp only [mb0];omega,by dsimp only [mb0];omega,by dsimp only [mb0];omega,by dsimp only [mb0];omega⟩ (Xq _ _) (Zo _ _) (IsStrs.nil _ _)) HBB.out (by simp;omega) HBM.out HST.out
end Go.Proofs.YtfoahkbnheijcaaGreatDoor
