/-
  Contracts of the functions that the law reaches: Entries: code.Sound and conciliatorref10.Sound. Entries' lengths and weights, in plain Lean. All keys of what is built, and done, are short. No program in sight. How many bytes a Build is written in: a finer bound. No program in sight. A sound record's entry is sound, and is written in at most 60000 bytes. No program in sight.
-/
import Derived.Test.YtgcfhkceejcliaaGreatDoorAp23
import Derived.Test.YtgcfhkceejcliaaGreatDoorAp25
import Derived.Test.YtgcfhkceejcliaaGreatDoorAp27
import Derived.Test.YtgcfhkceejcliaaGreatDoorAp31
import Derived.Test.YtgcfhkceejcliaaGreatDoorAp33
namespace Go.Proofs.YtgcfhkceejcliaaGreatDoor
open Go.RowKit
noncomputable def enSound (e:En):Bool:=
  if e.k=1 then lightB e.v && (e.op.length==0)
  else if e.k=2 then eqv e.v V.none && decide (e.op.length≤200) && !e.op.any (fun x=> !cmSound x)
  else if e.k=3 then eqv e.v V.none && (e.op.length==0)
  else false
def En.small (e:En):Prop:=e.v.weight≤4611686018427387904∧∀x ∈ e.op,x.v.weight≤4611686018427387904
structure Boxed1E (w W:World) (c:EC):Prop where
  at_:EntryAt W w.heap.size 0 c
  below:Below w.heap.size w W
  size:w.heap.size+1≤W.heap.size
theorem Boxed1E.step {w W W':World} {c:EC} (h:Boxed1E w W c) (hb:Below W.heap.size W W'):Boxed1E w W' c:=
  ⟨h.at_.keep hb (by have:=h.size;omega),h.below.trans (hb.mono (by have:=h.size;omega)),by have:=h.size;have:=hb.size;omega⟩
theorem Boxed1E.next {w W W1 W2:World} {B:Nat} {c:EC} (h:Boxed1E w W c) (hb:Below B W1 W2) (hW:Below W.heap.size W W1) (hB:B=W1.heap.size):Boxed1E w W2 c:=by
  subst hB;exact (h.step hW).step hb
theorem boxed1E_start (w:World) (c:EC) (t:TypeId):Boxed1E w (w.alloc (.cells #[.int .u8 c.k, .int .u32 c.src, .int .u32 c.seq, .int .u8 c.v.k, .int .i64 c.v.n, .string c.v.s, .slice c.v.la c.v.ll c.v.lc, .slice c.v.oa c.v.ol c.v.oc, .slice c.oa c.ol c.oc] t)) c:=
  ⟨⟨cells_new _ _ _ _ _ rfl,cells_new _ _ _ _ _ rfl,cells_new _ _ _ _ _ rfl,⟨cells_new _ _ _ _ _ rfl,cells_new _ _ _ _ _ rfl,cells_new _ _ _ _ _ rfl,cells_new _ _ _ _ _ rfl,cells_new _ _ _ _ _ rfl⟩,cells_new _ _ _ _ _ rfl⟩,(Below.refl _ _).alloc (Nat.le_refl _) _,by simp⟩
set_option maxHeartbeats 4000000 in
set_option maxRecDepth 100000 in
theorem enSound_any (x:En) (w:World) (hT:Tabs w) (c:EC) (hx:IsEntry w w.heap.size x c) (hs:x.small):
    Calls Tryz.prog 10 #[.agg #[.int .u8 c.k, .int .u32 c.src, .int .u32 c.seq, .int .u8 c.v.k, .int .i64 c.v.n, .string c.v.s, .slice c.v.la c.v.ll c.v.lc, .slice c.v.oa c.v.ol c.v.oc, .slice c.oa c.ol c.oc]] w fun e w'=>e= .returned (.bool (enSound x))∧Below w.heap.size w w':=by
  cases hx with
  |mk c v l hbd hv ho=>
  obtain ⟨hs1,hs2⟩:=hs
  dsimp only at hs1 hs2
  obtain ⟨vn,hvn⟩:∃vn,eqv v V.none=vn:=⟨_,rfl⟩
  obtain ⟨li,hli⟩:∃li,lightB v=li:=⟨_,rfl⟩
  obtain ⟨al,hal⟩:∃al,l.any (fun x=> !cmSound x)=al:=⟨_,rfl⟩
  have HLn:=Lib.hid ho.len
  have k1:=ho.few;have k2:=ho.max;have k3:=ho.cap
  have hR2:enSound ⟨c.k,c.src,c.seq,v,l⟩=(if c.k=1 then li && (c.ol==0) else if c.k=2 then vn && decide (c.ol≤200) && !al else if c.k=3 then vn && (c.ol==0) else false):=by
    rw [enSound,hvn,hli,hal, ←HLn.out]
  have HR:=Lib.hid hR2
  have HVN:Hid (Behind w 29 #[.agg #[.int .u8 c.v.k, .int .i64 c.v.n, .string c.v.s, .slice c.v.la c.v.ll c.v.lc, .slice c.v.oa c.v.ol c.v.oc], .agg #[.int .u8 0, .int .i64 0, .string { data:= #[] }, .slice none 0 0, .slice none 0 0]] (.bool vn)):=fun W hW=>by rw [←hvn];exact valSame_any v V.none W c.v VC.none (hv.later_ hW) (isVal_none _ _)
  have HLI:Hid (Behind w 30 #[.agg #[.int .u8 c.v.k, .int .i64 c.v.n, .string c.v.s, .slice c.v.la c.v.ll c.v.lc, .slice c.v.oa c.v.ol c.v.oc]] (.bool li)):=fun W hW=>by rw [←hli];exact light_any v W (hT.below hW) c.v (hv.later_ hW) hs1
  have HCO:Hid (Behind w 31 #[.slice c.oa c.ol c.oc, .func (.func 32) #[] #[]] (.bool al)):=fun W hW=>by
    rw [←hal]
    exact containsComp_any l W c.oa c.ol c.oc (ho.later_ hW) (fun x=> !cmSound x) 32 (enters_of Tryz.func32 (by kernel_rfl) rfl) (fun x d W' hx hW' hd=>compBad_any x W' (hT.below (hW.trans (hW'.mono hW.size))) d hd (hs2 x hx))
  have bx:=boxed1E_start w c 36
  clear hvn hli hR2 hv hbd
  by_cases e1:c.k=1
  · have f1:(c.k==1)=true:=by simp [e1]
    have hR3:enSound ⟨c.k,c.src,c.seq,v,l⟩=(li && (c.ol==0)):=by rw [HR.out,if_pos e1]
    have HR:=Lib.hid hR3
    clear e1 hR3 hT hs2 ho hal
    go_enter Tryz.func10,Tryz.ntmps10
    cases li with
    | false=>
      go_wp2_with (first|(go_at_call 29;(with_reducible refine (Behind.at_ (HVN.out) ?_).mono ?_);(focus (have:=bx.below;have:=bx.size;go_grown));rintro e w1 ⟨rfl,hb1⟩;replace bx:=bx.next hb1 (by go_grown) rfl;have zs:w.heap.size<w1.heap.size:=bx.size;have z0:=bx.at_.c0;have y0:=bx.at_.c3.c0;have y1:=bx.at_.c3.c1;have y2:=bx.at_.c3.c2;have y3:=bx.at_.c3.c3;have y4:=bx.at_.c3.c4;have z8:=bx.at_.c8)|(go_at_call 30;(with_reducible refine (Behind.at_ (HLI.out) ?_).mono ?_);(focus (have:=bx.below;have:=bx.size;go_grown));rintro e w1 ⟨rfl,hb1⟩;replace bx:=bx.next hb1 (by go_grown) rfl;have zs:w.heap.size<w1.heap.size:=bx.size;have z0:=bx.at_.c0;have y0:=bx.at_.c3.c0;have y1:=bx.at_.c3.c1;have y2:=bx.at_.c3.c2;have y3:=bx.at_.c3.c3;have y4:=bx.at_.c3.c4;have z8:=bx.at_.c8));go_ret;exact ⟨ret_bool (by first|(rw [HR.out];done)|(rw [HR.out];simp [*];done)|(rw [HR.out];simp [*];try omega)),by have:=bx.below;have:=bx.size;go_grown⟩
    | true=>
      by_cases hn:c.ol=0
      · have f2:((c.ol:Int)==0)=true:=by simp [hn]
        have f4:(c.ol==0)=true:=by simp [hn]
        clear hn
        go_wp2_with (first|(go_at_call 29;(with_reducible refine (Behind.at_ (HVN.out) ?_).mono ?_);(focus (have:=bx.below;have:=bx.size;go_grown));rintro e w1 ⟨rfl,hb1⟩;replace bx:=bx.next hb1 (by go_grown) rfl;have zs:w.heap.size<w1.heap.size:=bx.size;have z0:=bx.at_.c0;have y0:=bx.at_.c3.c0;have y1:=bx.at_.c3.c1;have y2:=bx.at_.c3.c2;have y3:=bx.at_.c3.c3;have y4:=bx.at_.c3.c4;have z8:=bx.at_.c8)|(go_at_call 30;(with_reducible refine (Behind.at_ (HLI.out) ?_).mono ?_);(focus (have:=bx.below;have:=bx.size;go_grown));rintro e w1 ⟨rfl,hb1⟩;replace bx:=bx.next hb1 (by go_grown) rfl;have zs:w.heap.size<w1.heap.size:=bx.size;have z0:=bx.at_.c0;have y0:=bx.at_.c3.c0;have y1:=bx.at_.c3.c1;have y2:=bx.at_.c3.c2;have y3:=bx.at_.c3.c3;have y4:=bx.at_.c3.c4;have z8:=bx.at_.c8));go_ret;exact ⟨ret_bool (by first|(rw [HR.out];done)|(rw [HR.out];simp [*];done)|(rw [HR.out];simp [*];try omega)),by have:=bx.below;have:=bx.size;go_grown⟩
      · have f2:((c.ol:Int)==0)=false:=by simp [hn]
        have f4:(c.ol==0)=false:=by simp [hn]
        clear hn
        go_wp2_with (first|(go_at_call 29;(with_reducible refine (Behind.at_ (HVN.out) ?_).mono ?_);(focus (have:=bx.below;have:=bx.size;go_grown));rintro e w1 ⟨rfl,hb1⟩;replace bx:=bx.next hb1 (by go_grown) rfl;have zs:w.heap.size<w1.heap.size:=bx.size;have z0:=bx.at_.c0;have y0:=bx.at_.c3.c0;have y1:=bx.at_.c3.c1;have y2:=bx.at_.c3.c2;have y3:=bx.at_.c3.c3;have y4:=bx.at_.c3.c4;have z8:=bx.at_.c8)|(go_at_call 30;(with_reducible refine (Behind.at_ (HLI.out) ?_).mono ?_);(focus (have:=bx.below;have:=bx.size;go_grown));rintro e w1 ⟨rfl,hb1⟩;replace bx:=bx.next hb1 (by go_grown) rfl;have zs:w.heap.size<w1.heap.size:=bx.size;have z0:=bx.at_.c0;have y0:=bx.at_.c3.c0;have y1:=bx.at_.c3.c1;have y2:=bx.at_.c3.c2;have y3:=bx.at_.c3.c3;have y4:=bx.at_.c3.c4;have z8:=bx.at_.c8));go_ret;exact ⟨ret_bool (by first|(rw [HR.out];done)|(rw [HR.out];simp [*];done)|(rw [HR.out];simp [*];try omega)),by have:=bx.below;have:=bx.size;go_grown⟩
  have f1:(c.k==1)=false:=by simp [e1]
  by_cases e2:c.k=2
  · have f2:(c.k==2)=true:=by simp [e2]
    have hR3:enSound ⟨c.k,c.src,c.seq,v,l⟩=(vn && decide (c.ol≤200) && !al):=by rw [HR.out,if_neg e1,if_pos e2]
    have HR:=Lib.hid hR3
    clear e1 e2 hR3
    clear hT hs2 ho hal
    go_enter Tryz.func10,Tryz.ntmps10
    cases vn with
    |false=>go_wp2_with (go_at_call 29;(with_reducible refine (Behind.at_ (HVN.out) ?_).mono ?_);(focus (have:=bx.below;have:=bx.size;go_grown));rintro e w1 ⟨rfl,hb1⟩;replace bx:=bx.next hb1 (by go_grown) rfl;have zs:w.heap.size<w1.heap.size:=bx.size;have z0:=bx.at_.c0;have y0:=bx.at_.c3.c0;have y1:=bx.at_.c3.c1;have y2:=bx.at_.c3.c2;have y3:=bx.at_.c3.c3;have y4:=bx.at_.c3.c4;have z8:=bx.at_.c8);go_ret;exact ⟨ret_bool (by first|(rw [HR.out];done)|(rw [HR.out];simp [*];done)|(rw [HR.out];simp [*];try omega)),by have:=bx.below;have:=bx.size;go_grown⟩
    | true=>
      by_cases hn:c.ol≤200
      case neg=>
        have f3:((c.ol:Int)≤200)=False:=by simp;omega
        go_wp2_with (go_at_call 29;(with_reducible refine (Behind.at_ (HVN.out) ?_).mono ?_);(focus (have:=bx.below;have:=bx.size;go_grown));rintro e w1 ⟨rfl,hb1⟩;replace bx:=bx.next hb1 (by go_grown) rfl;have zs:w.heap.size<w1.heap.size:=bx.size;have z0:=bx.at_.c0;have y0:=bx.at_.c3.c0;have y1:=bx.at_.c3.c1;have y2:=bx.at_.c3.c2;have y3:=bx.at_.c3.c3;have y4:=bx.at_.c3.c4;have z8:=bx.at_.c8);go_ret;exact ⟨ret_bool (by first|(rw [HR.out];done)|(rw [HR.out];simp [*];done)|(rw [HR.out];simp [*];try omega)),by have:=bx.below;have:=bx.size;go_grown⟩
      have f3:((c.ol:Int)≤200)=True:=by simp;omega
      go_wp2_with (first|(go_at_call 29;(with_reducible refine (Behind.at_ (HVN.out) ?_).mono ?_);(focus (have:=bx.below;have:=bx.size;go_grown));rintro e w1 ⟨rfl,hb1⟩;replace bx:=bx.next hb1 (by go_grown) rfl;have zs:w.heap.size<w1.heap.size:=bx.size;have z0:=bx.at_.c0;have y0:=bx.at_.c3.c0;have y1:=bx.at_.c3.c1;have y2:=bx.at_.c3.c2;have y3:=bx.at_.c3.c3;have y4:=bx.at_.c3.c4;have z8:=bx.at_.c8)|(go_at_call 31;(with_reducible refine (Behind.at_ (HCO.out) ?_).mono ?_);(focus (have:=bx.below;have:=bx.size;go_grown));rintro e w1 ⟨rfl,hb1⟩;replace bx:=bx.next hb1 (by go_grown) rfl;have zs:w.heap.size<w1.heap.size:=bx.size;have z0:=bx.at_.c0;have y0:=bx.at_.c3.c0;have y1:=bx.at_.c3.c1;have y2:=bx.at_.c3.c2;have y3:=bx.at_.c3.c3;have y4:=bx.at_.c3.c4;have z8:=bx.at_.c8))
      go_ret;exact ⟨ret_bool (by first|(rw [HR.out];done)|(rw [HR.out];simp [*];done)|(rw [HR.out];simp [*];try omega)),by have:=bx.below;have:=bx.size;go_grown⟩
  have f2:(c.k==2)=false:=by simp [e2]
  by_cases e3:c.k=3
  · have f3:(c.k==3)=true:=by simp [e3]
    have hR3:enSound ⟨c.k,c.src,c.seq,v,l⟩=(vn && (c.ol==0)):=by rw [HR.out,if_neg e1,if_neg e2,if_pos e3]
    have HR:=Lib.hid hR3
    clear e1 e2 e3 hR3 hT hs2 ho hal
    go_enter Tryz.func10,Tryz.ntmps10
    cases vn with
    |false=>go_wp2_with (go_at_call 29;(with_reducible refine (Behind.at_ (HVN.out) ?_).mono ?_);(focus (have:=bx.below;have:=bx.size;go_grown));rintro e w1 ⟨rfl,hb1⟩;replace bx:=bx.next hb1 (by go_grown) rfl;have zs:w.heap.size<w1.heap.size:=bx.size;have z0:=bx.at_.c0;have y0:=bx.at_.c3.c0;have y1:=bx.at_.c3.c1;have y2:=bx.at_.c3.c2;have y3:=bx.at_.c3.c3;have y4:=bx.at_.c3.c4;have z8:=bx.at_.c8);go_ret;exact ⟨ret_bool (by first|(rw [HR.out];done)|(rw [HR.out];simp [*];done)|(rw [HR.out];simp [*];try omega)),by have:=bx.below;have:=bx.size;go_grown⟩
    | true=>
      by_cases hn:c.ol=0
      · have f2:((c.ol:Int)==0)=true:=by simp [hn]
        have f4:(c.ol==0)=true:=by simp [hn]
        clear hn
        go_wp2_with (go_at_call 29;(with_reducible refine (Behind.at_ (HVN.out) ?_).mono ?_);(focus (have:=bx.below;have:=bx.size;go_grown));rintro e w1 ⟨rfl,hb1⟩;replace bx:=bx.next hb1 (by go_grown) rfl;have zs:w.heap.size<w1.heap.size:=bx.size;have z0:=bx.at_.c0;have y0:=bx.at_.c3.c0;have y1:=bx.at_.c3.c1;have y2:=bx.at_.c3.c2;have y3:=bx.at_.c3.c3;have y4:=bx.at_.c3.c4;have z8:=bx.at_.c8);go_ret;exact ⟨ret_bool (by first|(rw [HR.out];done)|(rw [HR.out];simp [*];done)|(rw [HR.out];simp [*];try omega)),by have:=bx.below;have:=bx.size;go_grown⟩
      · have f2:((c.ol:Int)==0)=false:=by simp [hn]
        have f4:(c.ol==0)=false:=by simp [hn]
        clear hn
        go_wp2_with (go_at_call 29;(with_reducible refine (Behind.at_ (HVN.out) ?_).mono ?_);(focus (have:=bx.below;have:=bx.size;go_grown));rintro e w1 ⟨rfl,hb1⟩;replace bx:=bx.next hb1 (by go_grown) rfl;have zs:w.heap.size<w1.heap.size:=bx.size;have z0:=bx.at_.c0;have y0:=bx.at_.c3.c0;have y1:=bx.at_.c3.c1;have y2:=bx.at_.c3.c2;have y3:=bx.at_.c3.c3;have y4:=bx.at_.c3.c4;have z8:=bx.at_.c8);go_ret;exact ⟨ret_bool (by first|(rw [HR.out];done)|(rw [HR.out];simp [*];done)|(rw [HR.out];simp [*];try omega)),by have:=bx.below;have:=bx.size;go_grown⟩
  have f3:(c.k==3)=false:=by simp [e3]
  have hR3:enSound ⟨c.k,c.src,c.seq,v,l⟩=false:=by rw [HR.out,if_neg e1,if_neg e2,if_neg e3]
  have HR:=Lib.hid hR3
  clear e1 e2 e3 hR3 hT hs2 ho hal
  go_enter Tryz.func10,Tryz.ntmps10
  go_wp2_with (go_at_call 29;(with_reducible refine (Behind.at_ (HVN.out) ?_).mono ?_);(focus (have:=bx.below;have:=bx.size;go_grown));rintro e w1 ⟨rfl,hb1⟩;replace bx:=bx.next hb1 (by go_grown) rfl;have zs:w.heap.size<w1.heap.size:=bx.size;have z0:=bx.at_.c0;have y0:=bx.at_.c3.c0;have y1:=bx.at_.c3.c1;have y2:=bx.at_.c3.c2;have y3:=bx.at_.c3.c3;have y4:=bx.at_.c3.c4;have z8:=bx.at_.c8);go_ret;exact ⟨ret_bool (by first|(rw [HR.out];done)|(rw [HR.out];simp [*];done)|(rw [HR.out];simp [*];try omega)),by have:=bx.below;have:=bx.size;go_grown⟩
end Go.Proofs.YtgcfhkceejcliaaGreatDoor
namespace Go.Proofs.YtgcfhkceejcliaaGreatDoor
open Go.RowKit
structure CmB (c:Cm) (K:Nat):Prop where
  bk:c.key.size≤K
  bs:c.s.size≤K
  bp:∀s ∈ c.path,s.key.size≤K
theorem encP_len {K:Nat} (p:List St) (h:∀s ∈ p,s.key.size≤K):(encP p).length≤p.length*(K+9):=by
  induction p with
  |nil=>simp [encP]
  | cons s r ih=>
    have h1:=h s (List.mem_cons_self ..)
    have h2:=ih fun t ht=>h t (List.mem_cons_of_mem _ ht)
    have h3:(encSt s).length≤K+9:=by
      unfold encSt
      split
      · rw [List.length_append,be_length,be_length];omega
      · rw [List.length_append,be_length,encS_length];omega
    rw [encP,List.length_append,List.length_cons,Nat.succ_mul];omega
theorem walkP_keys (l:List UInt8):∀v,∀s ∈ walkP v l,s.key.size≤v.weight:=by
  induction l with
  |nil=>intro v s hs;simp [walkP] at hs
  | cons b r ih=>
    intro v s hs
    obtain ⟨k,n,t,ls,os,rfl⟩:=v.eta
    unfold walkP at hs
    split at hs
    · rename_i hl
      have hlt:b.toNat % ls.length<ls.length:=Nat.mod_lt _ hl
      have hm:=weightL_mem ls _ hlt
      have e:(V.mk k n t ls os).ls=ls:=rfl
      rw [e] at hs
      rcases List.mem_cons.1 hs with rfl|hs
      · exact Nat.zero_le _
      · have h1:=ih _ s hs
        simp only [List.getD_eq_getElem?_getD,List.getElem?_eq_getElem hlt,Option.getD_some] at h1
        simp only [V.weight];omega
    · split at hs
      · rename_i ho
        have hlt:b.toNat % os.length<os.length:=Nat.mod_lt _ ho
        have hm:=weightO_mem os _ hlt
        have e:(V.mk k n t ls os).os=os:=rfl
        rw [e] at hs
        simp only [List.getD_eq_getElem?_getD,List.getElem?_eq_getElem hlt,Option.getD_some] at hs
        rcases List.mem_cons.1 hs with rfl|hs
        · simp only [V.weight];omega
        · have h1:=ih _ s hs
          simp only [V.weight];omega
      · exact ih _ s hs
theorem aimP_bnd {K:Nat} (l:List Ac):∀v,v.weight+20100*l.length+41≤K→∀c ∈ aimP v l,CmB c K∧c.v.weight≤20000:=by
  induction l with
  |nil=>intro v _ c hc;simp [aimP] at hc
  | cons a r ih =>
    intro v hv c hc
    rw [List.length_cons,Nat.mul_succ] at hv
    unfold aimP at hc
    split at hc
    · exact ih v (by omega) c hc
    · rename_i d hd
      split at hc
      · rename_i h0
        rcases List.mem_cons.1 hc with rfl|hc
        · have hs:=oneC_small hd
          refine ⟨⟨?_,by have:=hs.ss;omega,fun s hsm=> ?_⟩,hs.sv⟩
          · rcases hs.sk with h|h
            · omega
            · have hck:checkP v c=0:=by
                by_cases he:checkP v c=0
                · exact he
                · rw [doP,if_neg he] at h0;exact absurd h0 he
              obtain ⟨_,x,hg,_⟩:=checkP_ok hck
              obtain ⟨f,hf,e⟩:=h x hg
              have h1:=getP_weight c.path hg
              obtain ⟨k,n,t,ls,os,rfl⟩:=x.eta
              obtain ⟨i,hi,hfi⟩:=List.getElem_of_mem hf
              have h2:=weightO_mem os i hi
              have e2:os[i] =f:=hfi
              rw [e2,e] at h2
              simp only [V.weight] at h1;omega
          · have hp:s ∈ walkP v (a.path.take 8):=by
              have hsub:∀y:Cm,oneC v a=some y→y.path=aimPath v a.path:=by
                intro y hy
                unfold oneC oneX at hy
                repeat' split at hy
                all_goals first|(injection hy with hy;subst hy;rfl)|cases hy
              rw [hsub c hd] at hsm
              exact List.mem_of_mem_take (List.mem_of_mem_take hsm)
            have:=walkP_keys _ v s hp
            omega
        · have:=aim_step hd h0
          exact ih _ (by omega) c hc
      · exact ih v (by omega) c hc
theorem entry_small (x:Rc) (hv:∀t ∈ x.v,t.s.size≤140737488355328) (ho:∀b ∈ x.op,∀t ∈ b.v,t.s.size≤140737488355328):(entryP x).small:=by
  have hb:=(build_light x.v).2.1
  have hn:=weight_none
  unfold entryP
  split
  · split
    · exact ⟨by dsimp only;omega,fun c hc=>by cases hc⟩
    · split
      · refine ⟨by dsimp only;omega,fun c hc=> ?_⟩
        have hl:(x.acts.take 20).length≤20:=by rw [List.length_take];omega
        have:=(aimP_bnd (K:=1048576) (x.acts.take 20) (oneP 6 (x.v.take 60)).1 (by omega) c hc).2
        omega
      · exact ⟨by dsimp only;omega,fun c hc=>by cases hc⟩
  · refine ⟨raw_weight x.v hv,fun c hc=> ?_⟩
    obtain ⟨b,hb,rfl⟩:=List.mem_map.1 hc
    exact raw_weight b.v (ho b (List.mem_of_mem_take hb))
end Go.Proofs.YtgcfhkceejcliaaGreatDoor
namespace Go.Proofs.YtgcfhkceejcliaaGreatDoor
open Go.RowKit
inductive V.K40:V→Prop
  |mk (k n:Int) (s:ByteArray) (l:List V) (o:List (ByteArray×V)) (hl:∀x ∈ l,V.K40 x) (hk:∀f ∈ o,f.1.size≤40) (ho:∀f ∈ o,V.K40 f.2):V.K40 (.mk k n s l o)
theorem k40_none:V.none.K40:= .mk _ _ _ _ _ (fun _ h=>by cases h) (fun _ h=>by cases h) (fun _ h=>by cases h)
theorem V.K40.ls {v:V} (h:v.K40):∀x ∈ v.ls,x.K40:=by cases h with|mk k n s l o hl hk ho=>exact hl
theorem V.K40.os {v:V} (h:v.K40):∀f ∈ v.os,f.1.size≤40∧f.2.K40:=by cases h with|mk k n s l o hl hk ho=>exact fun f hf=>⟨hk f hf,ho f hf⟩
theorem k40_leaf (t:Tk):(leafP t).K40:=by
  unfold leafP
  repeat' split
  all_goals exact .mk _ _ _ _ _ (fun _ h=>by cases h) (fun _ h=>by cases h) (fun _ h=>by cases h)
theorem k40_L {f:List Tk→V×Nat} (hf:∀l,(f l).1.K40) (l:List Tk):∀j,∀x ∈ (bL f l j).1,x.K40:=by
  intro j
  induction j with
  |zero=>intro x h;cases h
  | succ j ih=>
    intro x h
    rw [bL] at h
    rcases List.mem_append.1 h with h|h
    · exact ih x h
    · rw [List.mem_singleton] at h;subst h;exact hf _
theorem k40_O {f:List Tk→V×Nat} (hf:∀l,(f l).1.K40) (l:List Tk):∀j,∀x ∈ (bO f l j).1,x.1.size≤40∧x.2.K40:=by
  intro j
  induction j with
  |zero=>intro x h;cases h
  | succ j ih=>
    intro x h
    rw [bO] at h
    rcases withF_mem h with h|h
    · exact ih x h
    · subst h;exact ⟨keyP_size _ _,hf _⟩
theorem oneP_k40 (d:Nat):∀l,(oneP d l).1.K40:=by
  induction d with
  | zero=>
    intro l
    cases l with
    |nil=>exact k40_none
    |cons t r=>exact k40_leaf t
  | succ d ih=>
    intro l
    cases l with
    |nil=>exact k40_none
    | cons t r=>
      rw [oneP]
      split
      · exact .mk _ _ _ _ _ (k40_L ih _ _) (fun _ h=>by cases h) (fun _ h=>by cases h)
      · split
        · exact .mk _ _ _ _ _ (fun _ h=>by cases h) (fun x h=>(k40_O ih _ _ x h).1) (fun x h=>(k40_O ih _ _ x h).2)
        · exact k40_leaf t
theorem stepP_k40 {v:V} {s:St} {x:V} {k:Nat} (hv:v.K40) (h:stepP v s=some (x,k)):x.K40:=by
  rcases stepP_some h with ⟨_,_,_,hk,rfl⟩|⟨_,_,_,hk,rfl⟩
  · exact hv.ls _ (List.getElem_mem _)
  · exact (hv.os _ (List.getElem_mem _)).2
theorem getP_k40 (p:List St):∀ {v x:V},v.K40→getP v p=some x→x.K40:=by
  induction p with
  |nil=>intro v x hv h;injection h with h;exact h ▸ hv
  | cons s r ih=>
    intro v x hv h
    unfold getP at h
    cases hs:stepP v s with
    |none=>rw [hs] at h;cases h
    | some q=>
      obtain ⟨y,k⟩:=q
      rw [hs] at h
      exact ih (stepP_k40 hv hs) h
theorem k40_setL {v z:V} {i:Nat} (hv:v.K40) (hz:z.K40):(v.setL i z).K40:=by
  cases hv with
  | mk k n s l o hl hk ho=>
    refine .mk _ _ _ _ _ (fun x hx=> ?_) hk ho
    rcases List.mem_or_eq_of_mem_set hx with h|h
    · exact hl x h
    · exact h ▸ hz
theorem k40_setO {v z:V} {i:Nat} (hv:v.K40) (hz:z.K40):(v.setO i z).K40:=by
  cases hv with
  | mk k n s l o hl hk ho=>
    have key:∀f ∈ putO o i z,f.1.size≤40∧f.2.K40:=by
      intro f hf
      unfold putO at hf
      rcases List.mem_or_eq_of_mem_set hf with h|h
      · exact ⟨hk f h,ho f h⟩
      · subst h
        refine ⟨?_,hz⟩
        dsimp only
        rw [List.getD_eq_getElem?_getD]
        cases hq:o[i]? with
        |none=>exact Nat.zero_le _
        |some y=>exact hk y (List.mem_of_getElem? hq)
    exact .mk _ _ _ _ _ hl (fun f hf=>(key f hf).1) (fun f hf=>(key f hf).2)
theorem putP_k40 (p:List St):∀ {v x w:V},v.K40→x.K40→putP v p x=some w→w.K40:=by
  induction p with
  |nil=>intro v x w _ hx h;injection h with h;exact h ▸ hx
  | cons s r ih=>
    intro v x w hv hx h
    unfold putP at h
    cases hs:stepP v s with
    |none=>rw [hs] at h;cases h
    | some q=>
      obtain ⟨y,k⟩:=q
      rw [hs] at h
      dsimp only at h
      cases hp:putP y r x with
      |none=>rw [hp] at h;cases h
      | some z=>
        rw [hp] at h
        dsimp only at h
        injection h with h
        have hz:=ih (stepP_k40 hv hs) hx hp
        split at h
        · exact h ▸ k40_setL hv hz
        · exact h ▸ k40_setO hv hz
theorem fold_k40 {key:ByteArray} {v:V} (hk:key.size≤40) (hv:v.K40) (o:List (ByteArray×V)):∀(s:List (ByteArray×V)×Bool),(∀f ∈ s.1,f.1.size≤40∧f.2.K40)→(∀f ∈ o,f.1.size≤40∧f.2.K40)→∀f ∈ (o.foldl (fldStep key v) s).1,f.1.size≤40∧f.2.K40:=by
  induction o with
  |nil=>intro s hs _;exact hs
  | cons g o ih=>
    intro s hs ho
    refine ih _ ?_ (fun f hf=>ho f (List.mem_cons_of_mem _ hf))
    have hg:=ho g List.mem_cons_self
    have one:∀ {f x:ByteArray×V},(x.1.size≤40∧x.2.K40)→f ∈ s.1++ [x] →f.1.size≤40∧f.2.K40:=by
      intro f x hx hf
      rcases List.mem_append.1 hf with h|h
      · exact hs f h
      · rw [List.mem_singleton] at h;exact h ▸ hx
    intro f hf
    unfold fldStep at hf
    split at hf
    · split at hf
      · exact one (x:=(key,v)) ⟨hk,hv⟩ hf
      · rcases List.mem_append.1 hf with h|h
        · exact one (x:=(key,v)) ⟨hk,hv⟩ h
        · rw [List.mem_singleton] at h;exact h ▸ hg
    · split at hf
      · exact hs f hf
      · exact one hg hf
theorem fieldsDo_k40 {key:ByteArray} {v:V} (hk:key.size≤40) (hv:v.K40) (o:List (ByteArray×V)) (d:Bool) (ho:∀f ∈ o,f.1.size≤40∧f.2.K40):∀f ∈ fieldsDo o key v d,f.1.size≤40∧f.2.K40:=by
  have h:=fold_k40 hk hv o ([],d) (fun f hf=>by cases hf) ho
  unfold fieldsDo
  split
  · intro f hf
    rcases List.mem_append.1 hf with g|g
    · exact h f g
    · rw [List.mem_singleton] at g;exact g ▸ ⟨hk,hv⟩
  · exact h
theorem listDo_k40 {l:List V} {k i j:Int} {v:V} (hl:∀x ∈ l,x.K40) (hv:v.K40):∀x ∈ listDo l k i j v,x.K40:=by
  have hr:∀x ∈ remL l i.toNat,x.K40:=by
    intro x hx
    unfold remL at hx
    rcases List.mem_append.1 hx with h|h
    · exact hl x (List.mem_of_mem_take h)
    · exact hl x (List.mem_of_mem_drop h)
  have hi:∀ {q:List V} {n:Nat} {y:V},(∀x ∈ q,x.K40)→y.K40→∀x ∈ insL q n y,x.K40:=by
    intro q n y hq hy x hx
    unfold insL at hx
    rcases List.mem_append.1 hx with h|h
    · exact hq x (List.mem_of_mem_take h)
    · rcases List.mem_cons.1 h with h|h
      · exact h ▸ hy
      · exact hq x (List.mem_of_mem_drop h)
  unfold listDo
  split
  · exact hi hl hv
  · split
    · exact hr
    · split
      · intro x hx
        rcases List.mem_or_eq_of_mem_set hx with h|h
        · exact hl x h
        · exact h ▸ hv
      · refine hi hr ?_
        rw [List.getD_eq_getElem?_getD]
        cases hq:l[i.toNat]? with
        |none=>exact k40_none
        |some y=>exact hl y (List.mem_of_getElem? hq)
theorem doneP_k40 {x:V} {c:Cm} (hx:x.K40) (hv:c.v.K40) (hk:c.key.size≤40):(doneP x c).K40:=by
  have hls:=hx.ls
  have hos:=hx.os
  unfold doneP
  split
  · exact .mk _ _ _ _ _ hls (fun f h=>(hos f h).1) (fun f h=>(hos f h).2)
  · split
    · have:=fieldsDo_k40 hk hv x.os (c.k==3) hos
      exact .mk _ _ _ _ _ hls (fun f h=>(this f h).1) (fun f h=>(this f h).2)
    · split
      · exact .mk _ _ _ _ _ hls (fun f h=>(hos f h).1) (fun f h=>(hos f h).2)
      · exact .mk _ _ _ _ _ (listDo_k40 hls hv) (fun f h=>(hos f h).1) (fun f h=>(hos f h).2)
theorem doP_k40 {v:V} {c:Cm} (hv:v.K40) (hc:c.v.K40) (hk:c.key.size≤40):(doP v c).1.K40:=by
  unfold doP
  split
  · cases hg:getP v c.path with
    |none=>exact k40_none
    | some x=>
      dsimp only
      cases hp:putP v c.path (doneP x c) with
      |none=>exact k40_none
      |some w=>exact putP_k40 c.path hv (doneP_k40 (getP_k40 c.path hv hg) hc hk) hp
  · exact k40_none
theorem walkP_k40 (bs:List UInt8):∀ {v:V},v.K40→∀s ∈ walkP v bs,s.key.size≤40:=by
  induction bs with
  |nil=>intro v _ s h;cases h
  | cons b r ih=>
    intro v hv s h
    unfold walkP at h
    split at h
    · rename_i hc
      rcases List.mem_cons.1 h with h|h
      · subst h;exact Nat.zero_le _
      · refine ih ?_ s h
        have hlt:b.toNat % v.ls.length<v.ls.length:=Nat.mod_lt _ hc
        rw [List.getD_eq_getElem?_getD,List.getElem?_eq_getElem hlt]
        exact hv.ls _ (List.getElem_mem hlt)
    · split at h
      · rename_i hc
        have hlt:b.toNat % v.os.length<v.os.length:=Nat.mod_lt _ hc
        rw [List.getD_eq_getElem?_getD,List.getElem?_eq_getElem hlt] at h
        have hf:=hv.os _ (List.getElem_mem hlt)
        rcases List.mem_cons.1 h with h|h
        · subst h;exact hf.1
        · exact ih hf.2 s h
      · exact ih hv s h
end Go.Proofs.YtgcfhkceejcliaaGreatDoor
namespace Go.Proofs.YtgcfhkceejcliaaGreatDoor
open Go.RowKit
def plainSum (l:List Tk) (u:Nat):Nat:=((l.take u).map fun t=>(plainS t.s).size).sum
theorem plainSum_drop (l:List Tk) (i u:Nat):plainSum l i+plainSum (l.drop i) u=plainSum l (i+u):=by
  unfold plainSum
  rw [←List.sum_append, ←List.map_append]
  congr 2
  rw [List.take_add]
def plainOne (l:List Tk):Nat:=(keyP l 0).size
theorem plainOne_cons (t:Tk) (r:List Tk):plainOne (t::r)=(plainS t.s).size:=rfl
theorem plainSum_one (t:Tk) (r:List Tk):plainSum (t::r) 1=(plainS t.s).size:=by simp [plainSum]
theorem keyP_drop (l:List Tk) (i:Nat):(keyP l i).size=plainOne (l.drop i):=by
  unfold plainOne keyP
  rw [List.getElem?_drop,Nat.add_zero]
structure Lean1 (l:List Tk) (v:V) (u:Nat):Prop where
  some:0<u→(encV v).length+plainOne l≤20*u+2*plainSum l u
  none:u=0→(encV v).length=1∧plainOne l=0
theorem Lean1.key {l:List Tk} {v:V} {u:Nat} (h:Lean1 l v u):(encV v).length+plainOne l≤20*u+2*plainSum l u+1:=by
  by_cases hu:u=0
  · have:=h.none hu;omega
  · have:=h.some (by omega);omega
theorem lean_leaf (t:Tk) (r:List Tk):(encV (leafP t)).length+plainOne (t::r)≤20+2*plainSum (t::r) 1:=by
  rw [plainOne_cons,plainSum_one]
  unfold leafP
  split
  · simp [encV,be_length];omega
  · split
    · simp [encV,be_length];omega
    · split
      · simp [encV,be_length,encS_length];omega
      · split
        · simp [encV,encL,be_length];omega
        · split
          · simp [encV,encO,be_length];omega
          · simp [V.none,encV,be_length];omega
theorem lean_L {f:List Tk→V×Nat} (hf:∀l,Lean1 l (f l).1 (f l).2) (t:Tk) (r:List Tk):∀j,1≤(bL f (t::r) j).2∧(encL (bL f (t::r) j).1).length+2*(plainS t.s).size≤20*((bL f (t::r) j).2 - 1)+2*plainSum (t::r) (bL f (t::r) j).2+j:=by
  intro j
  induction j with
  |zero=>exact ⟨Nat.le_refl _,by simp [bL,encL,plainSum_one]⟩
  | succ j ih=>
    obtain ⟨h1,h2⟩:=ih
    rw [bL]
    dsimp only
    have hk:=(hf ((t::r).drop (bL f (t::r) j).2)).key
    have hd:=plainSum_drop (t::r) (bL f (t::r) j).2 (f ((t::r).drop (bL f (t::r) j).2)).2
    rw [encL_append,List.length_append]
    simp only [encL,List.append_nil]
    exact ⟨by omega,by omega⟩
theorem lean_O {f:List Tk→V×Nat} (hf:∀l,Lean1 l (f l).1 (f l).2) (t:Tk) (r:List Tk):∀j,1≤(bO f (t::r) j).2∧(encO (bO f (t::r) j).1).length+2*(plainS t.s).size≤20*((bO f (t::r) j).2 - 1)+2*plainSum (t::r) (bO f (t::r) j).2+5*j:=by
  intro j
  induction j with
  |zero=>exact ⟨Nat.le_refl _,by simp [bO,encO,plainSum_one]⟩
  | succ j ih=>
    obtain ⟨h1,h2⟩:=ih
    rw [bO]
    dsimp only
    have hk:=(hf ((t::r).drop (bO f (t::r) j).2)).key
    have hd:=plainSum_drop (t::r) (bO f (t::r) j).2 (f ((t::r).drop (bO f (t::r) j).2)).2
    have hky:=keyP_drop (t::r) (bO f (t::r) j).2
    have s2:=withF_sum (fun f=>(encF f).length) (bO f (t::r) j).1 (keyP (t::r) (bO f (t::r) j).2) (f ((t::r).drop (bO f (t::r) j).2)).1
    rw [←encO_sum, ←encO_sum] at s2
    rw [encF_eq,List.length_append,encS_length] at s2
    dsimp only at s2
    exact ⟨by omega,by omega⟩
theorem oneP_lean (d:Nat):∀l,Lean1 l (oneP d l).1 (oneP d l).2:=by
  induction d with
  | zero=>
    intro l
    cases l with
    |nil=>exact ⟨fun h=>by simp [oneP] at h,fun _=>⟨by simp [oneP,V.none,encV,be_length],rfl⟩⟩
    |cons t r=>exact ⟨fun _=>by have:=lean_leaf t r;simpa [oneP] using this,fun h=>by simp [oneP] at h⟩
  | succ d ih=>
    intro l
    cases l with
    |nil=>exact ⟨fun h=>by simp [oneP] at h,fun _=>⟨by simp [oneP,V.none,encV,be_length],rfl⟩⟩
    | cons t r=>
      have hK:(t.m % 4).toNat≤3:=by omega
      obtain ⟨K,hk⟩:∃K,(t.m % 4).toNat=K:=⟨_,rfl⟩
      rw [oneP,hk]
      rw [hk] at hK
      have ho:=plainOne_cons t r
      split
      · obtain ⟨h1,h2⟩:=lean_L ih t r K
        refine ⟨fun _=> ?_,fun h=>by dsimp only at h;omega⟩
        dsimp only
        rw [encV,if_neg (by omega),if_neg (by omega),if_pos rfl,List.length_append,List.length_append,be_length,be_length,ho];omega
      · split
        · obtain ⟨h1,h2⟩:=lean_O ih t r K
          refine ⟨fun _=> ?_,fun h=>by dsimp only at h;omega⟩
          dsimp only
          rw [encV,if_neg (by omega),if_neg (by omega),if_neg (by omega),if_pos rfl,List.length_append,List.length_append,be_length,be_length,ho];omega
        · exact ⟨fun _=>lean_leaf t r,fun h=>by dsimp only at h;omega⟩
end Go.Proofs.YtgcfhkceejcliaaGreatDoor
namespace Go.Proofs.YtgcfhkceejcliaaGreatDoor
open Go.RowKit
def tsum (l:List Tk):Nat:=(l.map fun t=>t.s.size).sum
def asum (l:List Ac):Nat:=(l.map fun a=>tsum a.v).sum
theorem plainS_le (s:ByteArray):(plainS s).size≤s.size:=by
  have h:(plainS s).size=(plainL s.data.toList).length:=by
    show (plainL s.data.toList).toArray.size=_
    simp
  have e:s.data.toList.length=s.size:=Array.length_toList
  rw [h,plainL,List.length_map,List.length_take];omega
theorem plainSum_le (l:List Tk) (u:Nat):plainSum l u≤tsum l:=by
  induction l generalizing u with
  |nil=>simp [plainSum,tsum]
  | cons t r ih=>
    cases u with
    |zero=>simp [plainSum]
    | succ u=>
      have h1:=ih u
      have h2:=plainS_le t.s
      unfold plainSum tsum at*
      simp only [List.take_succ_cons,List.map_cons,List.sum_cons];omega
theorem tsum_take (l:List Tk) (n:Nat):tsum (l.take n)≤tsum l:=by
  induction l generalizing n with
  |nil=>simp [tsum]
  | cons t r ih=>
    cases n with
    |zero=>simp [tsum]
    | succ n=>
      have h1:=ih n
      unfold tsum at*
      simp only [List.take_succ_cons,List.map_cons,List.sum_cons];omega
theorem asum_take (l:List Ac) (n:Nat):asum (l.take n)≤asum l:=by
  induction l generalizing n with
  |nil=>simp [asum]
  | cons t r ih=>
    cases n with
    |zero=>simp [asum]
    | succ n=>
      have h1:=ih n
      unfold asum at*
      simp only [List.take_succ_cons,List.map_cons,List.sum_cons];omega
theorem build_bytes (l:List Tk):(encV (oneP 6 (l.take 60)).1).length≤1201+2*tsum l:=by
  have h:=(oneP_lean 6 (l.take 60)).key
  have hu:=oneP_used 6 (l.take 60)
  rw [List.length_take] at hu
  have h1:=plainSum_le (l.take 60) (oneP 6 (l.take 60)).2
  have h2:=tsum_take l 60
  omega
theorem none_bytes:(encV V.none).length=1:=by simp [V.none,encV,be_length]
structure AimC (c:Cm) (a:Ac):Prop where
  key:c.key.size≤40
  s:c.s.size≤41
  path:c.path.length≤5
  ps:∀s ∈ c.path,s.key.size≤40
  v:c.v.K40
  enc:(encV c.v).length≤1201+2*tsum a.v
theorem xAt_k40 {v:V} (hv:v.K40) (p:List St):(xAt v p).K40:=by
  unfold xAt
  cases h:getP v p with
  |none=>exact k40_none
  |some x=>exact getP_k40 p hv h
theorem aimPath_k40 {v:V} (hv:v.K40) (bs:List UInt8):∀s ∈ aimPath v bs,s.key.size≤40:=
  fun s h=>walkP_k40 _ hv s (List.mem_of_mem_take (List.mem_of_mem_take h))
theorem oneC_aim {v:V} {a:Ac} {c:Cm} (hv:v.K40) (h:oneC v a=some c):AimC c a:=by
  have hs:=oneC_small h
  have hx:=xAt_k40 hv (aimPath v a.path)
  have hp:=aimPath_k40 hv a.path
  unfold oneC at h
  obtain ⟨p,hpe⟩:∃p,aimPath v a.path=p:=⟨_,rfl⟩
  rw [hpe] at h hx hp
  obtain ⟨x,hxe⟩:∃x,xAt v p=x:=⟨_,rfl⟩
  rw [hxe] at h hx
  have hb:=build_bytes a.v
  have hn:=none_bytes
  have hk6:=oneP_k40 6 (a.v.take 60)
  have hps:=plainS_size a.s
  have hss:=hs.ss
  have hsp:=hs.sp
  unfold oneX at h
  split at h
  · injection h with h;subst h
    exact ⟨Nat.zero_le _,hss,hsp,hp,k40_none,by show (encV V.none).length≤_;omega⟩
  · split at h
    · injection h with h;subst h
      have hk:(textA x.str.size a.bare czero).key.size≤40:=by
        unfold textA
        split<;>exact Nat.zero_le _
      exact ⟨hk,hss,hsp,hp,k40_none,by show (encV V.none).length≤_;omega⟩
    · split at h
      · injection h with h;subst h
        have hk:(listA x.ls.length a.bare czero vzero).key.size≤40:=Nat.zero_le _
        have hv2:(listV x.ls.length a.k a.v).K40:=by
          unfold listV
          split
          · exact hk6
          · exact k40_none
        refine ⟨hk,hss,hsp,hp,hv2, ?_⟩
        show (encV (listV _ _ _)).length≤_
        unfold listV
        split<;>omega
      · split at h
        · injection h with h;subst h
          have hk:(fieldKey x.os a.bare).size≤40:=by
            unfold fieldKey
            split
            · rw [List.getD_eq_getElem?_getD]
              cases hq:x.os[(max a.bare.i 0 % (x.os.length:Int)).toNat]? with
              |none=>exact Nat.zero_le _
              |some y=>exact (hx.os y (List.mem_of_getElem? hq)).1
            · exact hps
          have hv2:(fieldV x.os a.bare a.v).K40:=by
            unfold fieldV
            split
            · exact k40_none
            · exact hk6
          refine ⟨hk,hss,hsp,hp,hv2, ?_⟩
          show (encV (fieldV _ _ _)).length≤_
          unfold fieldV
          split<;>omega
        · cases h
theorem encP_len40 (p:List St) (h:∀s ∈ p,s.key.size≤40):(encP p).length≤p.length*49:=encP_len (K:=40) p h
theorem aimC_len {c:Cm} {a:Ac} (h:AimC c a):(encC c).length≤1620+2*tsum a.v:=by
  obtain ⟨h1,h2,h3,h4,h5,h6⟩:=h
  have hp:=encP_len40 c.path h4
  have hT:(encT c).length≤44+8+8+8+(encV c.v).length+45:=by
    unfold encT
    simp only [List.length_append]
    have e1:(if hasB (saysB c.k) 75=true then encS c.key else []).length≤44:=by split<;>simp only [encS_length,List.length_nil] <;>omega
    have e2:(if hasB (saysB c.k) 73=true then be (c.i % 18446744073709551616).toNat 8 else []).length≤8:=by split<;>simp [be_length]
    have e3:(if hasB (saysB c.k) 74=true then be (c.j % 18446744073709551616).toNat 8 else []).length≤8:=by split<;>simp [be_length]
    have e4:(if hasB (saysB c.k) 78=true then be (c.n % 18446744073709551616).toNat 8 else []).length≤8:=by split<;>simp [be_length]
    have e5:(if hasB (saysB c.k) 86=true then encV c.v else []).length≤(encV c.v).length:=by split<;>simp
    have e6:(if hasB (saysB c.k) 83=true then encS c.s else []).length≤45:=by split<;>simp only [encS_length,List.length_nil] <;>omega
    omega
  have h7:c.path.length*49≤5*49:=Nat.mul_le_mul_right _ h3
  rw [encC,List.length_append,List.length_append,List.length_append,be_length,be_length];omega
theorem aimP_bytes (l:List Ac):∀v,v.K40→(encCs (aimP v l)).length≤1620*l.length+2*asum l:=by
  induction l with
  |nil=>intro v _;simp [aimP,encCs]
  | cons a r ih=>
    intro v hv
    have hs:asum (a::r)=tsum a.v+asum r:=by simp [asum]
    rw [List.length_cons,Nat.mul_succ,hs]
    unfold aimP
    split
    · have:=ih v hv;omega
    · rename_i c hc
      split
      · have h1:=oneC_aim hv hc
        have h2:=ih (doP v c).1 (doP_k40 hv h1.v h1.key)
        have h3:=aimC_len h1
        rw [encCs,List.length_append];omega
      · have:=ih v hv;omega
theorem aimP_sound (l:List Ac):∀v,∀c ∈ aimP v l,cmSound c=true:=by
  induction l with
  |nil=>intro v c h;simp [aimP] at h
  | cons a r ih=>
    intro v c h
    unfold aimP at h
    split at h
    · exact ih v c h
    · rename_i d _
      split at h
      · rename_i h0
        rcases List.mem_cons.1 h with rfl|h
        · by_cases he:checkP v c=0
          · exact (checkP_ok he).1
          · rw [doP,if_neg he] at h0;exact absurd h0 he
        · exact ih _ c h
      · exact ih v c h
theorem entry_sound (x:Rc) (hs:x.snd=true):enSound (entryP x)=true:=by
  unfold entryP
  rw [if_pos hs]
  have hnn:eqv V.none V.none=true:=by simp [eqv]
  split
  · rw [enSound]
    dsimp only
    rw [if_pos rfl,(build_light x.v).1];rfl
  · split
    · rw [enSound]
      dsimp only
      rw [if_neg (by decide),if_pos rfl,hnn]
      have hl:=aimP_few (x.acts.take 20) (oneP 6 (x.v.take 60)).1
      rw [List.length_take] at hl
      rw [decide_eq_true (by omega)]
      simp only [Bool.true_and,Bool.not_eq_true',List.any_eq_false]
      intro c hc
      have:=aimP_sound _ _ c hc
      simp [this]
    · rw [enSound]
      dsimp only
      rw [if_neg (by decide),if_neg (by decide),if_pos rfl,hnn];rfl
theorem build_6001 (l:List Tk):(encV (oneP 6 (l.take 60)).1).length≤6001:=by
  have hb:=(oneP_lean 6 (l.take 60)).key
  have hu:=oneP_used 6 (l.take 60)
  have hp:plainSum (l.take 60) (oneP 6 (l.take 60)).2≤40*(oneP 6 (l.take 60)).2:=by
    generalize (oneP 6 (l.take 60)).2=u
    generalize l.take 60=l
    induction l generalizing u with
    |nil=>simp [plainSum]
    | cons t r ih=>
      cases u with
      |zero=>simp [plainSum]
      | succ u=>
        have h1:=ih u
        have h2:=plainS_size t.s
        unfold plainSum at*
        simp only [List.take_succ_cons,List.map_cons,List.sum_cons];omega
  rw [List.length_take] at hu
  omega
theorem entry_bytes (x:Rc) (hs:x.snd=true) (hh:asum x.acts≤3000):(encE (entryP x)).length≤40000:=by
  unfold entryP
  rw [if_pos hs]
  split
  · unfold encE
    dsimp only
    rw [if_pos rfl]
    simp only [List.length_append,be_length]
    have:=build_6001 x.v
    omega
  · split
    · unfold encE
      dsimp only
      rw [if_neg (by decide),if_pos rfl]
      simp only [List.length_append,be_length]
      have h1:=aimP_bytes (x.acts.take 20) (oneP 6 (x.v.take 60)).1 (oneP_k40 _ _)
      have h2:=asum_take x.acts 20
      rw [List.length_take] at h1
      omega
    · unfold encE
      dsimp only
      rw [if_neg (by decide),if_neg (by decide)]
      simp only [List.length_append,be_length,List.length_nil]
      omega
end Go.Proofs.YtgcfhkceejcliaaGreatDoor
