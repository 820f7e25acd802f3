/-
  MsgDecodes: for every slice of bytes the law returns true and the slice reads as it did. Conditions: Go's two UTF-8 tables are what the program's text lays (the card ties them).
-/
import Derived.Test.YthceefjafklcmaaGreatDoorMd50
import Derived.Test.YthceefjafklcmaaGreatDoorMd51
import Derived.Test.YthceefjafklcmaaGreatDoorMd52
import Derived.Test.YthceefjafklcmaaGreatDoorMd42
import Derived.Test.YthceefjafklcmaaGreatDoorMd12
import Derived.Test.YthceefjafklcmaaGreatDoorMd53
import Derived.Test.YthceefjafklcmaaGreatDoorMd28
import Derived.Test.YthceefjafklcmaaGreatDoorRows
import Derived.Test.YthceefjafklcmaaGreatDoorCards
import Derived.Test.YthceefjafklcmaaGreatDoorTie
import Derived.PinnedBridge
import Derived.Lib.LaidIn
import Derived.Lib.LaidU8T
import Derived.Deep.DeepHandedRow
import Derived.Deep.DeepWitnessRowRef
import Derived.ProofKit
import Derived.SizedLaws
import Derived.SevenTiedAt
namespace Go.Proofs.YthceefjafklcmaaGreatDoor
open Go.RowKit
theorem refDecM_any (w:World) (a:Option Addr) (n c:Nat) (bs:List UInt8) (h:IsB w w.heap.size a n c bs) (hT:Tabs w):
    Calls Tryz.prog 6 #[.slice a n c] w fun e w'=>(∃cm,e= .returned (.tuple #[.agg (mcells cm).toArray, .int .i64 (decM bs).2])∧IsMsg w' w'.heap.size (decM bs).1 cm)∧Below w.heap.size w w':=by
  rw [←refDec_eq]
  by_cases hl:60000<bs.length
  · exact rd_long w a n c bs h hl
  by_cases h2:bs.length<2
  · exact rd_short0 w a n c bs h h2
  obtain ⟨b0,b1,r,hbs⟩:∃b0 b1 r,bs=b0::b1::r:=by
    rcases bs with _|⟨b0,_|⟨b1,r⟩⟩
    · simp at h2
    · simp at h2
    · exact ⟨b0,b1,r,rfl⟩
  by_cases hr:r.length<b1.toNat
  · exact rd_short1 w a n c bs h b0 b1 r hbs (by omega) hr
  by_cases hc2:c=2
  · exact rd_mainC w a n c bs h hT b0 b1 r hbs (by omega) (by omega) hc2
  by_cases hcL:c=2+b1.toNat
  · exact rd_mainB w a n c bs h hT b0 b1 r hbs (by omega) (by omega) hc2 hcL
  · exact rd_main w a n c bs h hT b0 b1 r hbs (by omega) (by omega) hc2 (by omega)
end Go.Proofs.YthceefjafklcmaaGreatDoor
namespace Go.Proofs.YthceefjafklcmaaGreatDoor
open Go.RowKit
def knM:Ms:=⟨2,⟨#[97]⟩,0,En.none,0,0,0,false,V.none, []⟩
theorem msgSound_kn:msgSound knM=true:=by
  have h1:(⟨#[97]⟩:ByteArray).toList= [97] :=by rw [ByteArray.toList_eq]
  have h2:(⟨#[97]⟩:ByteArray).size=1:=rfl
  simp [msgSound,knM,sndM,sameM,numberedB,bringsB,enNone,En.none,eqv,fieldsSound,h1,h2]
theorem encMsg_kn:encMsg knM=(0, [2,1,97]):=by
  rw [encMsg,msgSound_kn]
  rfl
theorem decM_9:decM [9] =(Ms.none,190):=by
  refine decM_no (by simp) ?_
  rw [decM,if_neg (by simp),if_neg]
  · decide
  · intro h
    have h2:(rdMsg [9]).2.2=true:=rfl
    rw [h2] at h
    simp at h
theorem rdMsg_kn:rdMsg [2,1,97] =(knM,0,false):=rfl
theorem decM_kn:decM [2,1,97] =(knM,0):=by
  rw [decM,if_neg (by simp),rdMsg_kn,if_pos]
  exact ⟨rfl,rfl,by rw [encMsg_kn],by rw [encMsg_kn];simp [eqBs]⟩
end Go.Proofs.YthceefjafklcmaaGreatDoor
namespace Go.Proofs.YthceefjafklcmaaGreatDoor
open Go.RowKit
def knMC:MC:=⟨2,⟨#[97]⟩,0,ezero,0,0,0,false,vzero,none,0,0⟩
theorem isMsg_kn (w:World) (B:Nat):IsMsg w B knM knMC:=isMsg_of ⟨by decide,by decide,by decide,by decide,by decide⟩ (isEntry_none _ _) (isVal_none _ _) (IsStrs.nil _ _) (by decide) (by decide) (by decide) (by decide) (by decide) (by decide)
theorem kn_fits:knM.Fits:=fits_of none_fits vnone_fits (by simp [encFs])
theorem kn_cells {W:World} {B:Nat} {c:MC} (h:IsMsg W B knM c):c.k=2∧c.doc=⟨#[97]⟩:=by
  obtain ⟨x,hx⟩:∃x,knM=x:=⟨_,rfl⟩
  rw [hx] at h
  cases h with
  | mk _ e v f h1 h2 h3 h4=>
    have a:=congrArg Ms.k hx;have b:=congrArg Ms.doc hx
    exact ⟨a.symm,b.symm⟩
theorem kn_enc (w:World) (hT:Tabs w):Calls Tryz.prog 8 #[.agg (mcells knMC).toArray] w fun e w'=>(∃a cp,e= .returned (.tuple #[.slice a 3 cp, .int .u16 0])∧IsB w' w'.heap.size a 3 cp [2,1,97])∧Below w.heap.size w w':=by
  have h:=encMsg_any knM w hT knMC (isMsg_kn _ _) kn_fits
  rw [encMsg_kn] at h
  refine h.mono fun e w' ⟨⟨a,n,cp,h1,h2⟩,h3⟩=> ?_
  obtain rfl:n=3:=h2.len
  exact ⟨⟨a,cp,h1,h2⟩,h3⟩
theorem kn_dec (w:World) (hT:Tabs w) (a:Option Addr) (c:Nat) (h:IsB w w.heap.size a 3 c [2,1,97]):Calls Tryz.prog 5 #[.slice a 3 c] w fun e w'=>(∃cm,e= .returned (.tuple #[.agg (mcells cm).toArray, .int .u16 0])∧cm.k=2∧cm.doc=⟨#[97]⟩)∧Below w.heap.size w w':=by
  have h2:=decM_any w hT a 3 c _ h
  rw [decM_kn] at h2
  exact h2.mono fun e w' ⟨⟨cm,h3,h4⟩,h5⟩=>⟨⟨cm,h3,kn_cells h4⟩,h5⟩
theorem kn_dec9 (w:World) (hT:Tabs w) (a:Option Addr) (c:Nat) (h:IsB w w.heap.size a 1 c [9]):Calls Tryz.prog 5 #[.slice a 1 c] w fun e w'=>(∃cm,e= .returned (.tuple #[.agg (mcells cm).toArray, .int .u16 190]))∧Below w.heap.size w w':=by
  have h2:=decM_any w hT a 1 c _ h
  rw [decM_9] at h2
  exact h2.mono fun e w' ⟨⟨cm,h3,h4⟩,h5⟩=>⟨⟨cm,h3⟩,h5⟩
end Go.Proofs.YthceefjafklcmaaGreatDoor
namespace Go.Proofs.YthceefjafklcmaaGreatDoor
open Go.RowKit
set_option maxHeartbeats 8000000 in
set_option maxRecDepth 100000 in
theorem knownM_any (w:World) (hT:Tabs w):Calls Tryz.prog 4 #[] w fun e w'=>e= .returned (.bool true)∧Below w.heap.size w w':=by
  have HT:=Lib.hid hT
  have HE:=Lib.hid (kn_enc w hT)
  clear hT
  go_enter Tryz.func4,Tryz.ntmps4
  go_wp2_with fail
  refine HE.out.mono ?_
  rintro e w1 ⟨⟨a1,c1,rfl,hI1⟩,hb1⟩
  have HD:=Lib.hid (kn_dec w1 (HT.out.below hb1) a1 c1 hI1)
  have HI1:=Lib.hid hI1
  clear hI1
  go_wp2_with fail
  refine HD.out.mono ?_
  rintro e w2 ⟨⟨c2,rfl,e2k,e2d⟩,hb2⟩
  have e2k':=Lib.hid e2k
  have e2d':=Lib.hid e2d
  have HB2:=Lib.hid (hb1.trans (hb2.mono hb1.size))
  clear e2k e2d
  go_wp2_with (refine wp_storeM rfl _ _ rfl ?_;refine ⟨w2.heap.size,mcells mzero,mcells c2,rfl,rfl,BC.start w2 (mcells mzero).toArray 36,rfl,rfl,rfl, ?_⟩;intro W3 bm keepf st;have b23:Below w2.heap.size w2 W3:=((Below.refl w2.heap.size w2).alloc (Nat.le_refl _) (.cells (mcells mzero).toArray 36)).trans (st.below (by simp));have HB3:=Lib.hid (HB2.out.trans (b23.mono HB2.out.size));have B13:=Lib.hid (hb2.trans (b23.mono hb2.size));clear keepf st b23)
  have hI9:=(OwnB.one W3 W3.heap.size (Nat.le_refl _) 9 (k:=9) rfl).isB
  refine (kn_dec9 _ (HT.out.below (HB3.out.alloc HB3.out.size _)) _ _ hI9).mono ?_
  rintro e w5 ⟨⟨c5,rfl⟩,hb5⟩
  have b35:Below W3.heap.size W3 w5:=((Below.refl _ _).alloc (Nat.le_refl _) _).trans (hb5.mono (by simp))
  have bm5:=bm.keep b35 bm.lt
  have HB5:=Lib.hid (HB3.out.trans (b35.mono HB3.out.size))
  have B15:=Lib.hid (B13.out.trans (b35.mono B13.out.size))
  clear bm b35 hb5 hI9 hb2 HE HD
  go_wp2_with (refine wp_storeM rfl _ _ rfl ?_;refine ⟨w5.heap.size,mcells mzero,mcells c5,rfl,rfl,BC.start w5 (mcells mzero).toArray 36,rfl,rfl,rfl, ?_⟩;intro W6 bm6 keepf st;have b56:Below w5.heap.size w5 W6:=((Below.refl w5.heap.size w5).alloc (Nat.le_refl _) (.cells (mcells mzero).toArray 36)).trans (st.below (by simp));have HB6:=Lib.hid (HB5.out.trans (b56.mono HB5.out.size));have bm7:=bm5.keep b56 bm5.lt;have hcv:=conv_isB (HI1.out.keep (B15.out.trans (b56.mono B15.out.size)));have x0:=bm7.at_ 0 _ rfl;have x1:=bm7.at_ 1 _ rfl;rw [e2k'.out] at x0;rw [e2d'.out] at x1;clear keepf st b56 bm6 bm7)
  go_returns
  exact ⟨rfl,HB6.out⟩
end Go.Proofs.YthceefjafklcmaaGreatDoor
namespace Go.Proofs.YthceefjafklcmaaGreatDoor
open Go.RowKit
theorem same_cells {W:World} {B:Nat} {m:Ms} {c d:MC} (h1:IsMsg W B m c) (h2:IsMsg W B m d):sameB c d true=true:=by
  obtain ⟨x,hx⟩:∃x,m=x:=⟨_,rfl⟩
  rw [hx] at h2
  cases h1 with
  | mk _ e v f g1 g2 g3 g4=>
    cases h2 with
    | mk _ e' v' f' k1 k2 k3 k4=>
      injection hx with a1 a2 a3 a4 a5 a6 a7 a8 a9 a10
      simp [sameB,a1,a2,a3,a5,a6,a7,a8]
theorem same_msg (w:World) (m:Ms) (c d:MC) (h1:IsMsg w w.heap.size m c) (h2:IsMsg w w.heap.size m d):Calls Tryz.prog 7 #[.agg (mcells c).toArray, .agg (mcells d).toArray] w fun e w'=>e= .returned (.bool true)∧Below w.heap.size w w':=by
  have h:=refMsSame_any m m w c d h1 h2
  have h3:sameMs c d (eqB m.f m.f) (eqB m.e m.e) (eqv m.v m.v)=true:=by
    rw [sameMs,eqB_self,eqB_self,eqv_self,same_cells h1 h2];rfl
  rw [h3] at h
  exact h
theorem decM_err {bs:List UInt8} :0≤(decM bs).2∧(decM bs).2≤190:=by
  unfold decM
  split
  · exact ⟨by dsimp only;omega,by dsimp only;omega⟩
  · split<;>exact ⟨by dsimp only;omega,by dsimp only;omega⟩
set_option maxHeartbeats 8000000 in
set_option maxRecDepth 100000 in
theorem msgDecodes_1 (w:World) (hT:Tabs w) (a:Option Addr) (n c:Nat) (bs:List UInt8) (h:IsB w w.heap.size a n c bs) (hn:n≤4000):
    Calls Tryz.prog 3 #[.slice a n c] w fun e w'=>e= .returned (.bool true)∧Below w.heap.size w w':=by
  have hn2:¬4000<n:=by omega
  have HD1:Hid (∀W,Below w.heap.size w W→Calls Tryz.prog 5 #[.slice a n c] W fun e w'=>(∃cm,e= .returned (.tuple #[.agg (mcells cm).toArray, .int .u16 (decM bs).2])∧IsMsg w' w'.heap.size (decM bs).1 cm)∧Below W.heap.size W w'):=fun W hW=>decM_any W (hT.below hW) a n c bs ((h.keep hW).more hW.size)
  have HD2:Hid (∀W,Below w.heap.size w W→Calls Tryz.prog 6 #[.slice a n c] W fun e w'=>(∃cm,e= .returned (.tuple #[.agg (mcells cm).toArray, .int .i64 (decM bs).2])∧IsMsg w' w'.heap.size (decM bs).1 cm)∧Below W.heap.size W w'):=fun W hW=>refDecM_any W a n c bs ((h.keep hW).more hW.size) (hT.below hW)
  obtain ⟨e1,e2⟩:= @decM_err bs
  generalize decM bs=md at HD1 HD2 e1 e2
  obtain ⟨m,er⟩:=md
  dsimp only at HD1 HD2 e1 e2
  have hw1:wrap64 er=er:=by unfold wrap64;omega
  have hw2:IntKind.i64.wrap er=er:=by rw [IntKind.wrap_i64];omega
  have HT:=Lib.hid hT
  clear hT h hn
  go_enter Tryz.func3,Tryz.ntmps3
  go_wp2_with (first|(go_at_call 4;(with_reducible refine (knownM_any w HT.out).mono ?_);rintro ek wk ⟨rfl,hbk⟩)|(go_at_call 5;(with_reducible refine (HD1.out wk hbk).mono ?_);rintro ee w2 ⟨⟨cm,rfl,hI2⟩,hb2⟩;have HI2:=Lib.hid hI2;have HB2:=Lib.hid (hbk.trans (hb2.mono hbk.size));clear hI2 hb2)|(refine wp_storeM rfl _ _ rfl ?_;refine ⟨w2.heap.size,mcells mzero,mcells cm,rfl,rfl,BC.start w2 (mcells mzero).toArray 36,rfl,rfl,rfl, ?_⟩;intro W3 bm keepf st;have b23:Below w2.heap.size w2 W3:=((Below.refl w2.heap.size w2).alloc (Nat.le_refl _) (.cells (mcells mzero).toArray 36)).trans (st.below (by simp));have HI3:=Lib.hid (HI2.out.later_ b23);have HB3:=Lib.hid (HB2.out.trans (b23.mono HB2.out.size));clear keepf st b23)|(go_at_call 6;(with_reducible refine (HD2.out W3 HB3.out).mono ?_);rintro ee w4 ⟨⟨cd,rfl,hI4⟩,hb4⟩;have HI4:=Lib.hid hI4;have HI4c:=Lib.hid (HI3.out.later_ hb4);have bm4:=bm.keep hb4 bm.lt;have HB4:=Lib.hid (HB3.out.trans (hb4.mono HB3.out.size));clear hI4 hb4)|(refine wp_storeM rfl _ _ rfl ?_;refine ⟨w4.heap.size,mcells mzero,mcells cd,rfl,rfl,BC.start w4 (mcells mzero).toArray 36,rfl,rfl,rfl, ?_⟩;intro W5 bm5 keepf st;have b45:Below w4.heap.size w4 W5:=((Below.refl w4.heap.size w4).alloc (Nat.le_refl _) (.cells (mcells mzero).toArray 36)).trans (st.below (by simp));have bm6:=bm4.keep b45 bm4.lt;have HI5:=Lib.hid (HI4.out.later_ b45);have HI5c:=Lib.hid (HI4c.out.later_ b45);have HB5:=Lib.hid (HB4.out.trans (b45.mono HB4.out.size));clear keepf st b45)|(refine wp_loadM rfl _ rfl ?_;first|(refine ⟨w2.heap.size,mcells cm,rfl,rfl,bm6, ?_⟩)|(refine ⟨w4.heap.size,mcells cd,rfl,rfl,bm5, ?_⟩))|(go_at_call 7;(with_reducible refine (same_msg W5 m cm cd HI5c.out HI5.out).mono ?_);rintro ee w6 ⟨rfl,hb6⟩))
  go_returns
  exact ⟨by simp,HB5.out.trans (hb6.mono HB5.out.size)⟩
set_option maxHeartbeats 2000000 in
set_option maxRecDepth 100000 in
theorem msgDecodes_any (w:World) (hT:Tabs w) (a:Option Addr) (n c:Nat) (bs:List UInt8) (h:IsB w w.heap.size a n c bs):
    Calls Tryz.prog 3 #[.slice a n c] w fun e w'=>e= .returned (.bool true)∧Below w.heap.size w w':=by
  by_cases hn:n≤4000
  · exact msgDecodes_1 w hT a n c bs h hn
  · have hn2:4000<n:=by omega
    have HT:=Lib.hid hT
    clear h hT hn
    go_enter Tryz.func3,Tryz.ntmps3
    go_wp2_with (go_at_call 4;(with_reducible refine (knownM_any w HT.out).mono ?_);rintro ek wk ⟨rfl,hbk⟩)
    go_returns
    exact ⟨rfl,hbk⟩
end Go.Proofs.YthceefjafklcmaaGreatDoor
namespace Go.Proofs.YthceefjafklcmaaGreatDoor
open Go.Shelf
open Go.ChangeShapes Go.WideShapes Go.ChangeAt Go.RowKit Go.Lib
set_option maxRecDepth 100000 in
set_option maxHeartbeats 2000000 in
theorem msgDecodesLifted (os:Os) (started:os.Started) (H:Type) (enc:TypeId×Value→H) (F:Stop.Interp):
    ReturnsInHanded {} Tryz.checked os 3 .any ((OpenSpec.ofChange Rows.msgDecodesSpec).preRow enc Tryz.prog Tryz.f3 Rows.msgDecodesRow.domain false Rows.msgDecodesRow.laid) (((OpenSpec.ofChange Rows.msgDecodesSpec).at F).post enc Tryz.prog Tryz.f3 false true false false):=by
  refine returnsInHanded_of_row (C:=Tryz.checked) (s:=OpenSpec.ofChange Rows.msgDecodesSpec) msgDecodesOwn started (by kernel_rfl) Tryz.func3
    (witness_row_atRef (enc:=enc) (C:=Tryz.checked) false (msgDecodesWorld os) #[.slice none 0 0] rfl (by kernel_rfl) (by kernel_rfl) (by kernel_rfl) (msgDecodesWitness os enc)) ?_
  intro W base args ds gs before hval0 hW _ _ _ hL _ _
  have hval:∀(j:Nat) t v,Tryz.f3.params[j]? =some t→args[j]? =some v→Value.okWide Tryz.prog W .any base t v:=hval0
  have hW':=hW
  obtain ⟨p,q,hA0,hV0,rfl,_,_⟩:=hW
  have hA:DataW.TrodAll enc Tryz.prog W 0 (fun _=>true) true Tryz.f3.params.toList args.toList ds p:=hA0
  rw [Tryz.params3] at hA hval
  obtain ⟨v0,d0,rfl,rfl,h0⟩:=trodAll_one hA
  obtain ⟨rfl,rfl⟩:=trodVars_none hV0
  have k0:=h0
  have lt0:∀x ∈ p,x.block<W.heap.size:=by obtain ⟨m,hm⟩:=k0;exact DataW.trod_lt m _ _ _ hm
  obtain ⟨a,n,c,bs,rfl,hI⟩:=msgDecodesBytes (hval 0 22 v0 rfl rfl) h0
  clear hA0 hV0 hval0
  have htab:Tabs W:=
    utf8Tabs_of_readsT (U8Types.of196 Tryz.lays196) ⟨by kernel_rfl,by kernel_rfl,by kernel_rfl,by kernel_rfl,by kernel_rfl,by kernel_rfl,by kernel_rfl⟩ (by rw [←Pinned.utf8First_eq];exact Lib.laidMet.reads hL (.tail _ (.head _))) (Lib.laidMet.reads hL (.head _))
  refine (msgDecodes_any W htab a n c bs hI).mono fun e W' ⟨he,bel⟩=> ?_
  subst he
  exact ⟨_,rfl,_,_,_, [],_, [],hW',trodAll_mk1 (shut_bool Tryz.underlying4 _),trodAll_cons_mk (Below.trod msgDecodesLaidOut (by kernel_rfl) (of_decide_eq_true (by kernel_rfl)) k0 bel lt0) trodAll_mk0,rfl,bel.frame _,fun h=>by cases h⟩
theorem msgDecodesRowHolds:Rows.MsgDecodesSaid:=
  OpenClaim.holds_of_cond 3 Tryz.f3 rfl rfl rfl rfl rfl rfl rfl ⟨rfl,rfl,rfl,rfl,rfl⟩ rfl rfl rfl rfl rfl (by kernel_rfl) Tryz.func3 (by kernel_rfl)
    (of_decide_eq_true (by kernel_rfl)) (by unfold Func.isWrapper;rw [if_neg (of_decide_eq_false (by kernel_rfl))];exact ⟨rfl,rfl⟩)
    (fun os started H enc _ F0=>by rw [OpenClaim.pre_eq_preRow];exact msgDecodesLifted os started H enc F0)
theorem msgDecodes_holds:Rows.MsgDecodesCardSaid:=
  Claim7.holds_tied_plain_at .later [] [.data, .pinned] true _ true
    msgDecodesRowHolds (fun _ h=>by cases h) (by kernel_rfl) (fun _ h=>by cases h) msgDecodes_row_tie rfl ⟨rfl,rfl⟩ (by kernel_rfl) rfl
    (fun f fn hf hfn=>by
      obtain rfl : f = 3 := Option.some.inj ((show Tryz.prog.funcNamed "conciliator/conciliatorlaw19.MsgDecodes" = some 3 by kernel_rfl).symm.trans hf) |>.symm
      obtain rfl:fn=Tryz.f3:=(Option.some.inj (Tryz.func3.symm.trans hfn)).symm
      exact ⟨by kernel_rfl,fun j t ht=>by
        rw [Tryz.params3] at ht
        have h3:t=22:=by
          rcases j with _|j
          · simpa using ht.symm
          · simp at ht
        subst h3
        exact (show Tryz.prog.wantsStandIn 22=false by kernel_rfl)⟩)
    (by kernel_rfl)
#print axioms msgDecodes_holds
end Go.Proofs.YthceefjafklcmaaGreatDoor
