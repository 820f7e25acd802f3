/-
  Contracts of the functions that the law reaches: conciliatorref06.kinds. conciliatorref01.Sound: of a value in memory it is the plain function's answer. Paths: slices.Equal over steps, conciliatorref03.Begins, Same and Sound, path.Sound.
-/
import Derived.Test.YtgcfhkceejcliaaGreatDoorAp18
import Derived.Test.YtgcfhkceejcliaaGreatDoorAp9
import Derived.Test.YtgcfhkceejcliaaGreatDoorAp4
import Derived.Test.YtgcfhkceejcliaaGreatDoorAp17
import Derived.Test.YtgcfhkceejcliaaGreatDoorAp2
import Derived.Sort.Walk0
import Derived.Laws.StructEq
namespace Go.Proofs.YtgcfhkceejcliaaGreatDoor
open Go.RowKit
def kindsP (x:V) (k i j n:Int) (key:ByteArray):Int:=
  if k=1 then (if x.kd≠2 then 31 else 0)
  else if k=2∨k=3 then (if x.kd≠5 then 31 else if k=3∧fieldIs x.os key=false then 33 else 0)
  else if k=8∨k=9 then (if x.kd≠3 then 31 else tCheck x.str k i n)
  else if x.kd≠4 then 31 else lCheck x.ls.length k i j
structure KB (w W:World) (c:VC) (cc:CC):Prop where
  v:BC W w.heap.size (vcells c)
  c:BC W (w.heap.size+1) (ccells cc)
  below:Below w.heap.size w W
theorem KB.start (w:World) (c:VC) (cc:CC) (t1 t2:TypeId):KB w ((w.alloc (.cells #[.int .u8 c.k, .int .i64 c.n, .string c.s, .slice c.la c.ll c.lc, .slice c.oa c.ol c.oc] t1)).alloc (.cells #[.int .u8 cc.k, .slice cc.pa cc.pl cc.pc, .string cc.key, .int .i64 cc.i, .int .i64 cc.j, .int .i64 cc.n, .int .u8 cc.v.k, .int .i64 cc.v.n, .string cc.v.s, .slice cc.v.la cc.v.ll cc.v.lc, .slice cc.v.oa cc.v.ol cc.v.oc, .string cc.s] t2)) c cc:=by
  have c2:=BC.start (w.alloc (.cells #[.int .u8 c.k, .int .i64 c.n, .string c.s, .slice c.la c.ll c.lc, .slice c.oa c.ol c.oc] t1)) #[.int .u8 cc.k, .slice cc.pa cc.pl cc.pc, .string cc.key, .int .i64 cc.i, .int .i64 cc.j, .int .i64 cc.n, .int .u8 cc.v.k, .int .i64 cc.v.n, .string cc.v.s, .slice cc.v.la cc.v.ll cc.v.lc, .slice cc.v.oa cc.v.ol cc.v.oc, .string cc.s] t2
  rw [World.size_alloc] at c2
  exact ⟨(BC.start w #[.int .u8 c.k, .int .i64 c.n, .string c.s, .slice c.la c.ll c.lc, .slice c.oa c.ol c.oc] t1).keep ((Below.refl _ _).alloc (Nat.le_refl _) _) (by simp),c2,((Below.refl _ _).alloc (Nat.le_refl _) _).alloc (by simp) _⟩
theorem KB.next {w W W':World} {c:VC} {cc:CC} {B:Nat} (h:KB w W c cc) (hb:Below B W W') (hB:w.heap.size+2≤B):KB w W' c cc:=
  ⟨h.v.keep hb (by omega),h.c.keep hb (by omega),h.below.trans (hb.mono (by omega))⟩
set_option maxHeartbeats 8000000 in
set_option maxRecDepth 100000 in
theorem kinds_any (w:World) (vk vn:Int) (vs:ByteArray) (la:Option Addr) (ll lc:Nat) (oa:Option Addr) (ol oc:Nat) (v:V) (hv:IsVal w w.heap.size v ⟨vk,vn,vs,la,ll,lc,oa,ol,oc⟩) (hs:vs.size≤1000000000000) (cc:CC) (hcb:cc.Bnd) (hT:Tabs w):
    Calls Tryz.prog 105 #[.agg #[.int .u8 vk, .int .i64 vn, .string vs, .slice la ll lc, .slice oa ol oc], .agg #[.int .u8 cc.k, .slice cc.pa cc.pl cc.pc, .string cc.key, .int .i64 cc.i, .int .i64 cc.j, .int .i64 cc.n, .int .u8 cc.v.k, .int .i64 cc.v.n, .string cc.v.s, .slice cc.v.la cc.v.ll cc.v.lc, .slice cc.v.oa cc.v.ol cc.v.oc, .string cc.s]] w fun e w'=>e= .returned (.int .i64 (kindsP v cc.k cc.i cc.j cc.n cc.key))∧Below w.heap.size w w':=by
  obtain ⟨k',n',s',l,o,rfl⟩:=v.eta
  obtain ⟨e1,e2,e3,hbd,hvl,hvo⟩:=hv.lists
  dsimp only at e1 e2 e3 hvl hvo
  subst e1 e2 e3
  have k1:=hvl.few;have k2:=hvl.max;have k3:=hvo.few;have k4:=hvo.max
  have HF:Hid (∀W,Below w.heap.size w W→Calls Tryz.prog 101 #[.agg #[.int .u8 vk, .int .i64 vn, .string vs, .slice la ll lc, .slice oa ol oc], .string cc.key] W fun e w'=>e= .returned (.tuple #[.int .i64 (fieldK o cc.key:Int), .bool (fieldIs o cc.key)])∧Below W.heap.size W w'):=fun W hW=>field_any W o cc.key vk vn vs la ll lc oa ol oc (hvo.later_ hW)
  have HTC:Hid (∀W,Below w.heap.size w W→Calls Tryz.prog 106 #[.string vs, .agg #[.int .u8 cc.k, .slice cc.pa cc.pl cc.pc, .string cc.key, .int .i64 cc.i, .int .i64 cc.j, .int .i64 cc.n, .int .u8 cc.v.k, .int .i64 cc.v.n, .string cc.v.s, .slice cc.v.la cc.v.ll cc.v.lc, .slice cc.v.oa cc.v.ol cc.v.oc, .string cc.s]] W fun e w'=>e= .returned (.int .i64 (tCheck vs cc.k cc.i cc.n))∧Below W.heap.size W w'):=fun W hW=>textCheck_any W vs cc hcb hs (hT.below hW)
  have HLC:Hid (∀W,Below w.heap.size w W→Calls Tryz.prog 108 #[.int .i64 ll, .agg #[.int .u8 cc.k, .slice cc.pa cc.pl cc.pc, .string cc.key, .int .i64 cc.i, .int .i64 cc.j, .int .i64 cc.n, .int .u8 cc.v.k, .int .i64 cc.v.n, .string cc.v.s, .slice cc.v.la cc.v.ll cc.v.lc, .slice cc.v.oa cc.v.ol cc.v.oc, .string cc.s]] W fun e w'=>e= .returned (.int .i64 (lCheck ll cc.k cc.i cc.j))∧Below W.heap.size W w'):=fun W _=>listCheck_any W ll (by omega) cc
  obtain ⟨K,hK⟩:∃K,fieldK o cc.key=K:=⟨_,rfl⟩
  obtain ⟨is,hi⟩:∃is,fieldIs o cc.key=is:=⟨_,rfl⟩
  rw [hK,hi] at HF
  obtain ⟨R,hR⟩:∃R,kindsP (.mk vk vn vs l o) cc.k cc.i cc.j cc.n cc.key=R:=⟨_,rfl⟩
  rw [hR]
  simp only [kindsP,V.kd,V.os,V.ls,V.str,hi, ←hvl.len] at hR
  have HB:=Lib.hid (KB.start w ⟨vk,vn,vs,la,ll,lc,oa,ol,oc⟩ cc 33 63)
  obtain ⟨tc,htc⟩:∃tc,tCheck vs cc.k cc.i cc.n=tc:=⟨_,rfl⟩
  obtain ⟨lk,hlk⟩:∃lk,lCheck ll cc.k cc.i cc.j=lk:=⟨_,rfl⟩
  rw [htc] at HTC
  rw [hlk] at HLC
  rw [htc,hlk] at hR
  obtain ⟨ck,hck⟩:∃ck,cc.k=ck:=⟨_,rfl⟩
  rw [hck] at hR HTC HLC HB ⊢
  have HCK:=Lib.hid hck
  have HR:=Lib.hid hR
  clear hvl hvo hv hbd hK hi hR hT hcb htc hlk hck
  by_cases e1:ck=1
  · cases e1
    by_cases h:vk=2
    · cases h
      obtain rfl:R=0:=by rw [←HR.out];rfl
      go_enter Tryz.func105,Tryz.ntmps105
      go_wp2_with fail
      go_returns
      exact ⟨rfl,HB.out.below⟩
    · have f:(vk !=2)=true:=by simp [h]
      obtain rfl:R=31:=by rw [←HR.out];simp [h]
      go_enter Tryz.func105,Tryz.ntmps105
      go_wp2_with fail
      go_returns
      exact ⟨rfl,HB.out.below⟩
  have g1:(ck==1)=false:=by simp [e1]
  by_cases e2:ck=2
  · cases e2
    by_cases h:vk=5
    · cases h
      obtain rfl:R=0:=by rw [←HR.out];simp
      go_enter Tryz.func105,Tryz.ntmps105
      go_wp2_with fail
      refine (HF.out _ HB.out.below).mono ?_
      rintro e W ⟨rfl,hb1⟩
      have B:=HB.out.next hb1 (by simp)
      obtain ⟨v0,v1,v2,v3,v4⟩:=row5 B.v.at_
      obtain ⟨b0,b1,b2,b3,b4,b5,b6,b7,b8,b9,b10,b11⟩:=row12 B.c.at_
      have z0:=B.v.lt;have z1:=B.c.lt
      rw [HCK.out] at b0
      have HBW:=Lib.hid B.below
      clear B hb1
      go_wp2_with fail
      go_returns
      exact ⟨rfl,HBW.out⟩
    · have f:(vk !=5)=true:=by simp [h]
      obtain rfl:R=31:=by rw [←HR.out];simp [h]
      go_enter Tryz.func105,Tryz.ntmps105
      go_wp2_with fail
      refine (HF.out _ HB.out.below).mono ?_
      rintro e W ⟨rfl,hb1⟩
      have B:=HB.out.next hb1 (by simp)
      obtain ⟨v0,v1,v2,v3,v4⟩:=row5 B.v.at_
      obtain ⟨b0,b1,b2,b3,b4,b5,b6,b7,b8,b9,b10,b11⟩:=row12 B.c.at_
      have z0:=B.v.lt;have z1:=B.c.lt
      rw [HCK.out] at b0
      have HBW:=Lib.hid B.below
      clear B hb1
      go_wp2_with fail
      go_returns
      exact ⟨rfl,HBW.out⟩
  have g2:(ck==2)=false:=by simp [e2]
  by_cases e3:ck=3
  · cases e3
    by_cases h:vk=5
    · cases h
      cases is with
      | true=>
        obtain rfl:R=0:=by rw [←HR.out];simp
        go_enter Tryz.func105,Tryz.ntmps105
        go_wp2_with fail
        refine (HF.out _ HB.out.below).mono ?_
        rintro e W ⟨rfl,hb1⟩
        have B:=HB.out.next hb1 (by simp)
        obtain ⟨v0,v1,v2,v3,v4⟩:=row5 B.v.at_
        obtain ⟨b0,b1,b2,b3,b4,b5,b6,b7,b8,b9,b10,b11⟩:=row12 B.c.at_
        have z0:=B.v.lt;have z1:=B.c.lt
        rw [HCK.out] at b0
        have HBW:=Lib.hid B.below
        clear B hb1
        go_wp2_with fail
        go_returns
        exact ⟨rfl,HBW.out⟩
      | false=>
        obtain rfl:R=33:=by rw [←HR.out];simp
        go_enter Tryz.func105,Tryz.ntmps105
        go_wp2_with fail
        refine (HF.out _ HB.out.below).mono ?_
        rintro e W ⟨rfl,hb1⟩
        have B:=HB.out.next hb1 (by simp)
        obtain ⟨v0,v1,v2,v3,v4⟩:=row5 B.v.at_
        obtain ⟨b0,b1,b2,b3,b4,b5,b6,b7,b8,b9,b10,b11⟩:=row12 B.c.at_
        have z0:=B.v.lt;have z1:=B.c.lt
        rw [HCK.out] at b0
        have HBW:=Lib.hid B.below
        clear B hb1
        go_wp2_with fail
        go_returns
        exact ⟨rfl,HBW.out⟩
    · have f:(vk !=5)=true:=by simp [h]
      obtain rfl:R=31:=by rw [←HR.out];simp [h]
      go_enter Tryz.func105,Tryz.ntmps105
      go_wp2_with fail
      refine (HF.out _ HB.out.below).mono ?_
      rintro e W ⟨rfl,hb1⟩
      have B:=HB.out.next hb1 (by simp)
      obtain ⟨v0,v1,v2,v3,v4⟩:=row5 B.v.at_
      obtain ⟨b0,b1,b2,b3,b4,b5,b6,b7,b8,b9,b10,b11⟩:=row12 B.c.at_
      have z0:=B.v.lt;have z1:=B.c.lt
      rw [HCK.out] at b0
      have HBW:=Lib.hid B.below
      clear B hb1
      go_wp2_with fail
      go_returns
      exact ⟨rfl,HBW.out⟩
  have g3:(ck==3)=false:=by simp [e3]
  by_cases e8:ck=8
  · cases e8
    by_cases h:vk=3
    · cases h
      obtain rfl:R=tc:=by rw [←HR.out];simp
      go_enter Tryz.func105,Tryz.ntmps105
      go_wp2_with fail
      refine (HTC.out _ HB.out.below).mono ?_
      rintro e W ⟨rfl,hb1⟩
      have B:=HB.out.next hb1 (by simp)
      obtain ⟨v0,v1,v2,v3,v4⟩:=row5 B.v.at_
      obtain ⟨b0,b1,b2,b3,b4,b5,b6,b7,b8,b9,b10,b11⟩:=row12 B.c.at_
      have z0:=B.v.lt;have z1:=B.c.lt
      rw [HCK.out] at b0
      have HBW:=Lib.hid B.below
      clear B hb1
      go_wp2_with fail
      go_returns
      exact ⟨rfl,HBW.out⟩
    · have f:(vk !=3)=true:=by simp [h]
      obtain rfl:R=31:=by rw [←HR.out];simp [h]
      go_enter Tryz.func105,Tryz.ntmps105
      go_wp2_with fail
      go_returns
      exact ⟨rfl,HB.out.below⟩
  have g8:(ck==8)=false:=by simp [e8]
  by_cases e9:ck=9
  · cases e9
    by_cases h:vk=3
    · cases h
      obtain rfl:R=tc:=by rw [←HR.out];simp
      go_enter Tryz.func105,Tryz.ntmps105
      go_wp2_with fail
      refine (HTC.out _ HB.out.below).mono ?_
      rintro e W ⟨rfl,hb1⟩
      have B:=HB.out.next hb1 (by simp)
      obtain ⟨v0,v1,v2,v3,v4⟩:=row5 B.v.at_
      obtain ⟨b0,b1,b2,b3,b4,b5,b6,b7,b8,b9,b10,b11⟩:=row12 B.c.at_
      have z0:=B.v.lt;have z1:=B.c.lt
      rw [HCK.out] at b0
      have HBW:=Lib.hid B.below
      clear B hb1
      go_wp2_with fail
      go_returns
      exact ⟨rfl,HBW.out⟩
    · have f:(vk !=3)=true:=by simp [h]
      obtain rfl:R=31:=by rw [←HR.out];simp [h]
      go_enter Tryz.func105,Tryz.ntmps105
      go_wp2_with fail
      go_returns
      exact ⟨rfl,HB.out.below⟩
  have g9:(ck==9)=false:=by simp [e9]
  by_cases h:vk=4
  · cases h
    obtain rfl:R=lk:=by rw [←HR.out];rw [if_neg e1,if_neg (by omega),if_neg (by omega),if_neg (by omega)]
    go_enter Tryz.func105,Tryz.ntmps105
    go_wp2_with fail
    refine (HLC.out _ HB.out.below).mono ?_
    rintro e W ⟨rfl,hb1⟩
    have B:=HB.out.next hb1 (by simp)
    obtain ⟨v0,v1,v2,v3,v4⟩:=row5 B.v.at_
    obtain ⟨b0,b1,b2,b3,b4,b5,b6,b7,b8,b9,b10,b11⟩:=row12 B.c.at_
    have z0:=B.v.lt;have z1:=B.c.lt
    rw [HCK.out] at b0
    have HBW:=Lib.hid B.below
    clear B hb1
    go_wp2_with fail
    go_returns
    exact ⟨rfl,HBW.out⟩
  · have f:(vk !=4)=true:=by simp [h]
    obtain rfl:R=31:=by rw [←HR.out];rw [if_neg e1,if_neg (by omega),if_neg (by omega),if_pos h]
    go_enter Tryz.func105,Tryz.ntmps105
    go_wp2_with fail
    go_returns
    exact ⟨rfl,HB.out.below⟩
end Go.Proofs.YtgcfhkceejcliaaGreatDoor
namespace Go.Proofs.YtgcfhkceejcliaaGreatDoor
open Go.RowKit
theorem less_total (x y:List UInt8):Op.bytesLess x y=true∨x=y∨Op.bytesLess y x=true:=by
  simp only [bytesLess_eq,decide_eq_true_eq]
  by_cases h:x<y
  · exact .inl h
  · by_cases h2:y<x
    · exact .inr (.inr h2)
    · exact .inr (.inl (List.le_antisymm h2 h))
theorem less_asym (x y:List UInt8) (h:Op.bytesLess x y=true):Op.bytesLess y x=false∧x≠y:=by
  simp only [bytesLess_eq,decide_eq_true_eq,decide_eq_false_iff_not] at h ⊢
  exact ⟨List.lt_asymm h,fun e=>by subst e;exact List.lt_irrefl _ h⟩
theorem soundL_step {l:List V} {k:Nat} (h:soundL (l.take k)=true) (kl:k<l.length) (e:l[k].sound=true):Hid (soundL (l.take (k+1))=true):=by
  rw [take_snoc l k kl]
  show soundL _=true
  rw [soundL_iff] at h ⊢
  intro v hv
  rcases List.mem_append.1 hv with h1|h1
  · exact h v h1
  · rw [List.mem_singleton] at h1;rw [h1];exact e
theorem soundL_no {l:List V} {k:Nat} (kl:k<l.length) (e:l[k].sound=false):soundL l=false:=by
  cases h:soundL l with
  |false=>rfl
  |true=>rw [soundL_iff] at h;rw [h _ (List.getElem_mem kl)] at e;cases e
theorem soundO_step {o:List (ByteArray×V)} {k:Nat} (h:soundO (o.take k)=true) (kl:k<o.length) (e1:Lib.validD o[k].1.data.toList=true) (e:o[k].2.sound=true):soundO (o.take (k+1))=true:=by
  rw [take_snoc o k kl]
  rw [soundO_iff] at h ⊢
  intro v hv
  rcases List.mem_append.1 hv with h1|h1
  · exact h v h1
  · rw [List.mem_singleton] at h1;rw [h1];exact ⟨e1,e⟩
theorem soundO_no {o:List (ByteArray×V)} {k:Nat} (kl:k<o.length) (e:Lib.validD o[k].1.data.toList=false∨o[k].2.sound=false):soundO o=false:=by
  cases h:soundO o with
  |false=>rfl
  | true=>
    rw [soundO_iff] at h
    have:=h _ (List.getElem_mem kl)
    rcases e with e|e
    · rw [this.1] at e;cases e
    · rw [this.2] at e;cases e
theorem rising_step {o:List (ByteArray×V)} {j:Nat} (h:rising (o.take (j+1))=true) (kl:j+1<o.length) (e:Op.bytesLess o[j].1.toList o[j+1].1.toList=true):rising (o.take (j+1+1))=true:=by
  rw [rising_iff] at h ⊢
  intro i hi
  simp only [List.length_take] at hi
  simp only [List.getElem_take]
  by_cases hij:i=j
  · subst hij;exact e
  · have:=h i (by simp only [List.length_take];omega)
    simpa only [List.getElem_take] using this
theorem rising_no {o:List (ByteArray×V)} {j:Nat} (kl:j+1<o.length) (e:Op.bytesLess o[j].1.toList o[j+1].1.toList=false):rising o=false:=by
  cases h:rising o with
  |false=>rfl
  |true=>rw [rising_iff] at h;rw [h j kl] at e;cases e
theorem rising_one (o:List (ByteArray×V)):rising (o.take 1)=true:=by
  cases o with
  |nil=>rfl
  |cons f r=>simp [rising]
theorem len0 {α:Type} {l:List α} {n:Nat} (h:n=l.length) (h0:n=0):l= [] :=List.eq_nil_of_length_eq_zero (by omega)
theorem plain_true {k n:Int} {s:ByteArray} {ll ol:Nat} (h:plainB k n s ll ol=true):
    (k=0∧n=0∧s.toList= [] ∧ll=0∧ol=0)∨(k=1∧(n=0∨n=1)∧s.toList= [] ∧ll=0∧ol=0)∨(k=2∧s.toList= [] ∧ll=0∧ol=0)∨
    (k=3∧n=0∧Lib.validD s.data.toList=true∧ll=0∧ol=0)∨(k=4∧n=0∧s.toList= [] ∧ol=0)∨(k=5∧n=0∧s.toList= [] ∧ll=0):=by
  unfold plainB at h
  split at h
  · rename_i hk;simp at h;simp [hk,h]
  · split at h
    · rename_i hk;simp at h;simp [hk,h]
    · split at h
      · rename_i hk;simp at h;simp [hk,h]
      · split at h
        · rename_i hk;simp at h;simp [hk,h]
        · split at h
          · rename_i hk;simp at h;simp [hk,h]
          · split at h
            · rename_i hk;simp at h;simp [hk,h]
            · cases h
theorem valid_nil {s:ByteArray} (h:s.toList= []):Lib.validD s.data.toList=true:=by
  rw [←ByteArray.toList_eq,h];exact Lib.validD_nil
set_option maxHeartbeats 4000000 in
set_option maxRecDepth 100000 in
theorem refSound_scalar (w:World) (k n:Int) (s:ByteArray) (la:Option Addr) (lc:Nat) (oa:Option Addr) (oc:Nat) (hT:Tabs w) (hsz:s.size≤140737488355328)
    (hp:(k=0∧n=0∧s.toList= [])∨(k=1∧(n=0∨n=1)∧s.toList= [])∨(k=2∧s.toList= [])∨(k=3∧n=0∧Lib.validD s.data.toList=true)):
    Calls Tryz.prog 61 #[.agg #[.int .u8 k, .int .i64 n, .string s, .slice la 0 lc, .slice oa 0 oc]] w fun e w'=>e= .returned (.bool true)∧Below w.heap.size w w':=by
  have hv:Lib.validD s.data.toList=true:=by
    rcases hp with ⟨_,_,h⟩|⟨_,_,h⟩|⟨_,h⟩|⟨_,_,h⟩
    · exact valid_nil h
    · exact valid_nil h
    · exact valid_nil h
    · exact h
  have hc:=fun (W:World) hT=>(valid_any s W hsz hT)
  rw [hv] at hc
  have HC:=Lib.hid hc
  clear hc hv
  rcases hp with ⟨rfl,rfl,h⟩|⟨rfl,rfl|rfl,h⟩|⟨rfl,h⟩|⟨rfl,rfl,h⟩
  all_goals
    go_enter Tryz.func61,Tryz.ntmps61
    go_wp2_with (go_at_call 60;refine (HC.out _ (hT.below ((Below.refl _ _).alloc (Nat.le_refl _) _))).mono ?_;rintro e w' ⟨rfl,hb⟩;obtain ⟨hc,hf⟩:=bcell hb;have hz:=hb.size;simp only [World.size_alloc] at hz)
    refine wp_loop_rounds 1 ?_
    rw [rounds_succ]
    go_wp2_with fail
    refine wp_loop_rounds 1 ?_
    rw [rounds_succ]
    go_wp2_with fail
    go_ret
    exact ⟨rfl,((Below.refl _ _).alloc (Nat.le_refl _) _).trans (hb.mono (by simp))⟩
set_option maxHeartbeats 4000000 in
set_option maxRecDepth 100000 in
theorem refSound_any (a:V):∀(w:World) (c:VC),IsVal w w.heap.size a c→Tabs w→
    Calls Tryz.prog 61 #[.agg #[.int .u8 c.k, .int .i64 c.n, .string c.s, .slice c.la c.ll c.lc, .slice c.oa c.ol c.oc]] w fun e w'=>e= .returned (.bool a.sound)∧Below w.heap.size w w':=by
  induction a using V.ind with
  |h k n s l o ihl iho=>
  have IHL:=Lib.hid ihl;have IHO:=Lib.hid iho;clear ihl iho
  intro w c ha hT
  cases ha with
  |mk c l o cl co lb lo ob oo cbd hl ho hla hoa hlc hlv hoc hov=>
  have c1:=cbd.l1;have c2:=cbd.l2;have c3:=cbd.o1;have c4:=cbd.o2;have hsz:=cbd.s1
  by_cases hp:plainB c.k c.n c.s c.ll c.ol=true
  case neg=>
    have hp:plainB c.k c.n c.s c.ll c.ol=false:=by simpa using hp
    refine (refSound_no w c hT cbd hp).mono ?_
    rintro e w' ⟨rfl,hb⟩
    exact ⟨ret_bool (sound_plain (by rw [←hl, ←ho];exact hp)).symm,hb⟩
  have hst:=boxed1_start w c 33
  have hsd:(V.mk c.k c.n c.s l o).sound=(rising o && soundL l && soundO o):=by simp [V.sound, ←hl, ←ho,hp]
  obtain ⟨k,n,s,la,ll,lc,oa,ol,oc⟩:=c
  dsimp only at*
  have Hl:=Lib.hid hl;have Ho:=Lib.hid ho;clear hl ho
  have hval:=fun (W:World) hT=>(valid_any s W hsz hT)
  rcases plain_true hp with ⟨h1,h2,h3,h4,h5⟩|⟨h1,h2,h3,h4,h5⟩|⟨h1,h3,h4,h5⟩|⟨h1,h2,h3,h4,h5⟩|⟨h1,h2,h3,h5⟩|⟨h1,h2,h3,h4⟩
  · obtain rfl:l= [] :=len0 Hl.out h4
    obtain rfl:o= [] :=len0 Ho.out h5
    subst h4 h5
    refine (refSound_scalar w k n s la lc oa oc hT hsz (.inl ⟨h1,h2,h3⟩)).mono ?_
    rintro e w' ⟨rfl,hb⟩
    exact ⟨ret_bool (by rw [hsd];rfl),hb⟩
  · obtain rfl:l= [] :=len0 Hl.out h4
    obtain rfl:o= [] :=len0 Ho.out h5
    subst h4 h5
    refine (refSound_scalar w k n s la lc oa oc hT hsz (.inr (.inl ⟨h1,h2,h3⟩))).mono ?_
    rintro e w' ⟨rfl,hb⟩
    exact ⟨ret_bool (by rw [hsd];rfl),hb⟩
  · obtain rfl:l= [] :=len0 Hl.out h4
    obtain rfl:o= [] :=len0 Ho.out h5
    subst h4 h5
    refine (refSound_scalar w k n s la lc oa oc hT hsz (.inr (.inr (.inl ⟨h1,h3⟩)))).mono ?_
    rintro e w' ⟨rfl,hb⟩
    exact ⟨ret_bool (by rw [hsd];rfl),hb⟩
  · obtain rfl:l= [] :=len0 Hl.out h4
    obtain rfl:o= [] :=len0 Ho.out h5
    subst h4 h5
    refine (refSound_scalar w k n s la lc oa oc hT hsz (.inr (.inr (.inr ⟨h1,h2,h3⟩)))).mono ?_
    rintro e w' ⟨rfl,hb⟩
    exact ⟨ret_bool (by rw [hsd];rfl),hb⟩
  · -- a list
    obtain rfl:o= [] :=len0 Ho.out h5
    subst h1 h2 h5
    rw [valid_nil h3] at hval
    have HC:=Lib.hid hval
    have HSD:Hid ((V.mk 4 0 s l []).sound=soundL l):=hsd.trans (by simp [rising,soundO])
    clear hval hp hsd hoc hov hoa
    obtain ⟨W,hW⟩:∃W,(V.mk 4 0 s l []).sound=W:=⟨_,rfl⟩
    rw [hW]
    have HW:=Lib.hid hW
    clear hW
    go_enter Tryz.func61,Tryz.ntmps61
    go_wp2_with (go_at_call 60;refine (HC.out _ (hT.below ((Below.refl _ _).alloc (Nat.le_refl _) _))).mono ?_;rintro e w' ⟨rfl,hb⟩;obtain ⟨hc,hf⟩:=bcell hb;have hz:=hb.size;simp only [World.size_alloc] at hz)
    have hB0:=hst.step hb
    clear hst hb hc hf hz
    go_loopw [3] (fun i wr=>∃k:Nat,k≤ll∧i= .int .i64 k∧Hid (soundL (l.take k)=true)∧Boxed1 w wr ⟨4,0,s,la,ll,lc,oa,0,oc⟩) (fun i _=>ll - (intOf i).toNat)
    case atStart=>exact ⟨0,Nat.zero_le _,rfl,by rfl,hB0⟩
    case round=>
      clear hB0
      obtain ⟨k,hk,rfl,HJ,hB⟩:=hrel
      have b1:wr.cell? ⟨w.heap.size,3,none⟩=some (.slice la ll lc):=hB.a.c3
      by_cases hlt:k<ll
      · obtain ⟨ela,hlb⟩:=hla (by omega)
        have kl:k<l.length:=by rw [←Hl.out];exact hlt
        have x1:=(hlc k kl).keep hB.below hlb
        rw [ela] at b1
        have r0:=x1.c0;have r1:=x1.c1;have r2:=x1.c2;have r3:=x1.c3;have r4:=x1.c4
        clear ela x1
        have ih:=IHL.out _ (List.getElem_mem kl) wr (cl k) ((hlv k kl).later_ hB.below) (hT.below hB.below)
        cases hx:l[k].sound with
        | true=>
          rw [hx] at ih
          have HX:=Lib.hid hx
          have H:=Lib.hid ih
          clear ih hx
          go_wp2_with (go_at_call 61;refine H.out.mono ?_;rintro e w' ⟨rfl,hb⟩)
          go_roundw
          case rel=>exact ⟨k+1,by omega,by go_num,soundL_step HJ.out kl HX.out,hB.step hb⟩
          case measure=>simp [intOf];omega
        | false=>
          rw [hx] at ih
          have HX:=Lib.hid hx
          have H:=Lib.hid ih
          clear ih hx
          go_wp2_with (go_at_call 61;refine H.out.mono ?_;rintro e w' ⟨rfl,hb⟩)
          go_ret
          exact ⟨ret_bool (by rw [←HW.out,HSD.out,soundL_no kl HX.out]),(hB.step hb).below⟩
      · have b2:wr.cell? ⟨w.heap.size,4,none⟩=some (.slice oa 0 oc):=hB.a.c4
        go_wp2_with fail
        refine wp_loop_rounds 1 ?_
        rw [rounds_succ]
        go_wp2_with fail
        go_ret
        exact ⟨ret_bool (by rw [←HW.out,HSD.out, ←HJ.out,List.take_of_length_le (by have:=Hl.out;omega)]),hB.below⟩
  · -- an object
    obtain rfl:l= [] :=len0 Hl.out h4
    subst h1 h2 h4
    rw [valid_nil h3] at hval
    have HC:=Lib.hid hval
    have HSD:Hid ((V.mk 5 0 s [] o).sound=(rising o && soundO o)):=hsd.trans (by simp [soundL])
    clear hval hp hsd hlc hlv hla
    obtain ⟨W,hW⟩:∃W,(V.mk 5 0 s [] o).sound=W:=⟨_,rfl⟩
    rw [hW]
    have HW:=Lib.hid hW
    clear hW
    go_enter Tryz.func61,Tryz.ntmps61
    go_wp2_with (go_at_call 60;refine (HC.out _ (hT.below ((Below.refl _ _).alloc (Nat.le_refl _) _))).mono ?_;rintro e w' ⟨rfl,hb⟩;obtain ⟨hc,hf⟩:=bcell hb;have hz:=hb.size;simp only [World.size_alloc] at hz)
    have hB0:=hst.step hb
    clear hst hb
    refine wp_loop_rounds 1 ?_
    rw [rounds_succ]
    go_wp2_with fail
    clear hc hf hz
    go_loopw [5] (fun i wr=>∃k:Nat,k≤ol∧i= .int .i64 k∧Hid (soundO (o.take k)=true∧rising (o.take k)=true)∧Boxed1 w wr ⟨5,0,s,la,0,lc,oa,ol,oc⟩) (fun i _=>ol - (intOf i).toNat)
    case atStart=>exact ⟨0,Nat.zero_le _,rfl,⟨by rfl,by rfl⟩,hB0⟩
    case round =>
      clear hB0
      obtain ⟨k,hk,hi,HJ,hB⟩:=hrel
      have b1:wr.cell? ⟨w.heap.size,4,none⟩=some (.slice oa ol oc):=hB.a.c4
      by_cases hlt:k<ol
      · obtain ⟨ela,hlb⟩:=hoa (by omega)
        have kl:k<o.length:=by rw [←Ho.out];exact hlt
        obtain ⟨g1,ksz,x1⟩:=hoc k kl
        have x1:=x1.keep hB.below hlb
        have g1:=keep_cell hB.below g1 hlb
        have hval:=fun (W:World) hT=>(valid_any o[k].1 W ksz hT)
        have q1:=later_cell b1
        rw [ela] at b1 q1
        have r0:=x1.c0;have r1:=x1.c1;have r2:=x1.c2;have r3:=x1.c3;have r4:=x1.c4
        have ih:=IHO.out _ (List.getElem_mem kl) wr (co k) ((hov k kl).later_ hB.below) (hT.below hB.below)
        cases hx:o[k].2.sound with
        | false=>
          rw [hx] at ih
          have HX:=Lib.hid hx
          have H:=Lib.hid ih
          clear ih hx ela x1 hval q1 g1
          subst hi
          go_wp2_with (go_at_call 61;refine H.out.mono ?_;rintro e w' ⟨rfl,hb⟩)
          refine wp_region_later (by kernel_rfl) (by kernel_rfl) ?_
          repeat (go_big_quiet_step (fail))
          refine wpQuiet_nil ?_
          intro _ hw'
          obtain ⟨pq,hw''⟩:=hw'
          subst hw''
          go_wp2_with fail
          go_ret
          exact ⟨ret_bool (by rw [←HW.out,HSD.out,soundO_no kl (.inr HX.out)];simp),((hB.step hb).step (below_later _ _)).below⟩
        | true =>
          rw [hx] at ih
          have HX:=Lib.hid hx
          have H:=Lib.hid ih
          clear ih hx x1 ela
          cases hv:Lib.validD o[k].1.data.toList with
          | false=>
            rw [hv] at hval
            have HV:=Lib.hid hv
            have HVC:=Lib.hid hval
            clear hv hval
            subst hi
            go_wp2_with (go_at_call 61;refine H.out.mono ?_;rintro e w' ⟨rfl,hb⟩)
            have q2:=later_cell (keep_cell hb b1 (by have:=hB.size;omega))
            have t1:=later_cell (keep_cell hb g1 (by have:=hB.below.size;omega))
            clear q1
            refine wp_region_later (by kernel_rfl) (by kernel_rfl) ?_
            repeat (go_big_quiet_step (((go_at_call 60;exact later_call (HVC.out _ (hT.below ((hB.step hb).below.trans ((below_later _ _).mono (by have:=(hB.step hb).size;omega)))))))))
            refine wpQuiet_nil ?_
            intro _ hw'
            obtain ⟨pq,hw''⟩:=hw'
            subst hw''
            go_wp2_with fail
            go_ret
            exact ⟨ret_bool (by rw [←HW.out,HSD.out,soundO_no kl (.inl HV.out)];simp),((hB.step hb).step (below_later _ _)).below⟩
          | true =>
            rw [hv] at hval
            have HV:=Lib.hid hv
            have HVC:=Lib.hid hval
            clear hv hval
            rcases k with _|j
            · subst hi
              clear hoa
              go_wp2_with (go_at_call 61;refine H.out.mono ?_;rintro e w' ⟨rfl,hb⟩)
              have q2:=later_cell (keep_cell hb b1 (by have:=hB.size;omega))
              have t1:=later_cell (keep_cell hb g1 (by have:=hB.below.size;omega))
              simp only [Nat.zero_mul,Nat.add_zero] at t1
              clear q1
              refine wp_region_later (by kernel_rfl) (by kernel_rfl) ?_
              repeat (go_big_quiet_step (((go_at_call 60;exact later_call (HVC.out _ (hT.below ((hB.step hb).below.trans ((below_later _ _).mono (by have:=(hB.step hb).size;omega)))))))))
              refine wpQuiet_nil ?_
              intro _ hw'
              obtain ⟨pq,hw''⟩:=hw'
              subst hw''
              go_wp2_with fail
              go_roundw
              case rel=>exact ⟨1,by omega,by go_num,⟨soundO_step HJ.out.1 kl HV.out HX.out,rising_one o⟩,(hB.step hb).step (below_later _ _)⟩
              case measure=>simp [intOf];omega
            · have hi2:=hi.trans (show Value.int .i64 ((j+1:Nat):Int)= .int .i64 ((j:Int)+1) by go_num)
              clear hi
              subst hi2
              have jl:j<o.length:=by omega
              obtain ⟨g2,_,_⟩:=hoc j jl
              have g2:=keep_cell hB.below g2 hlb
              go_wp2_with (go_at_call 61;refine H.out.mono ?_;rintro e w' ⟨rfl,hb⟩)
              have q2:=later_cell (keep_cell hb b1 (by have:=hB.size;omega))
              have t1:=later_cell (keep_cell hb g1 (by have:=hB.below.size;omega))
              have t2:=later_cell (keep_cell hb g2 (by have:=hB.below.size;omega))
              clear q1 g1 g2 r0 r1 r2 r3 r4
              by_cases hr:Op.bytesLess o[j].1.toList o[j+1].1.toList=true
              · obtain ⟨a1,a2⟩:=less_asym _ _ hr
                have a3:(o[j+1].1.toList==o[j].1.toList)=false:=by simp [Ne.symm a2]
                have HR:=Lib.hid hr
                clear hr a2
                refine wp_region_later (by kernel_rfl) (by kernel_rfl) ?_
                repeat (go_big_quiet_step (((go_at_call 60;exact later_call (HVC.out _ (hT.below ((hB.step hb).below.trans ((below_later _ _).mono (by have:=(hB.step hb).size;omega)))))))))
                refine wpQuiet_nil ?_
                intro _ hw'
                obtain ⟨pq,hw''⟩:=hw'
                subst hw''
                clear q2 t1 t2 a1 a3
                go_wp2_with fail
                go_roundw
                case rel=>exact ⟨j+1+1,by omega,by go_num,⟨soundO_step HJ.out.1 kl HV.out HX.out,rising_step HJ.out.2 kl HR.out⟩,(hB.step hb).step (below_later _ _)⟩
                case measure=>simp [intOf];omega
              · have hr:Op.bytesLess o[j].1.toList o[j+1].1.toList=false:=by simpa using hr
                have HR:=Lib.hid hr
                have a1:Op.bytesLess o[j+1].1.toList o[j].1.toList=true∨(Op.bytesLess o[j+1].1.toList o[j].1.toList=false∧o[j+1].1.toList=o[j].1.toList):=by
                  rcases less_total o[j+1].1.toList o[j].1.toList with h|h|h
                  · exact .inl h
                  · cases hq:Op.bytesLess o[j+1].1.toList o[j].1.toList with
                    |true=>exact .inl rfl
                    |false=>exact .inr ⟨rfl,h⟩
                  · rw [hr] at h;cases h
                clear hr
                rcases a1 with a1|⟨a1,a2⟩
                · refine wp_region_later (by kernel_rfl) (by kernel_rfl) ?_
                  repeat (go_big_quiet_step (((go_at_call 60;exact later_call (HVC.out _ (hT.below ((hB.step hb).below.trans ((below_later _ _).mono (by have:=(hB.step hb).size;omega)))))))))
                  refine wpQuiet_nil ?_
                  intro _ hw'
                  obtain ⟨pq,hw''⟩:=hw'
                  subst hw''
                  clear q2 t1 t2 a1
                  go_wp2_with fail
                  go_ret
                  exact ⟨ret_bool (by rw [←HW.out,HSD.out,rising_no kl HR.out];simp),((hB.step hb).step (below_later _ _)).below⟩
                · have a3:(o[j+1].1.toList==o[j].1.toList)=true:=by rw [a2];simp
                  clear a2
                  refine wp_region_later (by kernel_rfl) (by kernel_rfl) ?_
                  repeat (go_big_quiet_step (((go_at_call 60;exact later_call (HVC.out _ (hT.below ((hB.step hb).below.trans ((below_later _ _).mono (by have:=(hB.step hb).size;omega)))))))))
                  refine wpQuiet_nil ?_
                  intro _ hw'
                  obtain ⟨pq,hw''⟩:=hw'
                  subst hw''
                  clear q2 t1 t2 a1 a3
                  go_wp2_with fail
                  go_ret
                  exact ⟨ret_bool (by rw [←HW.out,HSD.out,rising_no kl HR.out];simp),((hB.step hb).step (below_later _ _)).below⟩
      · subst hi
        go_wp2_with fail
        go_ret
        refine ⟨ret_bool ?_,hB.below⟩
        have hjo:=HJ.out
        rw [List.take_of_length_le (by have:=Ho.out;omega)] at hjo
        rw [←HW.out,HSD.out,hjo.1,hjo.2]
        rfl
end Go.Proofs.YtgcfhkceejcliaaGreatDoor
namespace Go.Proofs.YtgcfhkceejcliaaGreatDoor
open Go.RowKit
def St.ok (s:St):Bool:=if s.list then s.key.toList.isEmpty && decide (0≤s.i) else s.i==0 && Lib.validD s.key.data.toList
def pathSound (p:List St):Bool:=decide (p.length≤16) && p.all St.ok
theorem St.ext' {a b:St} (h1:a.list=b.list) (h2:a.i=b.i) (h3:a.key=b.key):a=b:=by
  cases a;cases b;simp_all
def stNe (a b:St):Bool:= !(a.list==b.list && a.i==b.i && a.key.toList==b.key.toList)
theorem stNe_eqB (a b:St):stNe a b= !eqB a b:=by
  unfold stNe
  congr 1
  by_cases h:a=b
  · subst h;simp [eqB]
  · rw [eqB_no h]
    cases h1:(a.list==b.list && a.i==b.i && a.key.toList==b.key.toList) with
    |false=>rfl
    | true=>
      simp at h1
      exact absurd (St.ext' h1.1.1 h1.1.2 (bytes_ext h1.2)) h
theorem step_neq (a b:St) (w:World):(binOp .neq 56 (.agg #[.bool a.list, .int .i64 a.i, .string a.key]) (.agg #[.bool b.list, .int .i64 b.i, .string b.key])).run Tryz.prog w= .ok (.bool (stNe a b)) w:=by
  have hS:Tryz.prog.underlying 56=some (.struct (Tryz.prog.fieldsOf 56)):=by kernel_rfl
  have hp:Tryz.prog.stoodInHeld 56=false:=by kernel_rfl
  rw [run_neq_struct,show (10000:Nat)=9999+1 from rfl,run_equalIn_agg w 9999 56 _ _ hS hp]
  simp only [Program.fieldsOf,Tryz.underlying56,stNe]
  go_simp
  by_cases h1:a.list=b.list<;>by_cases h2:a.i=b.i<;>by_cases h3:a.key.toList=b.key.toList<;>simp [h1,h2,h3]
set_option maxHeartbeats 2000000 in
set_option maxRecDepth 100000 in
theorem equalSteps_any (l l':List St) (w:World) (a a':Option Addr) (n m c c':Nat) (h:IsSteps w w.heap.size l a n c) (h':IsSteps w w.heap.size l' a' m c'):
    Calls Tryz.prog 90 #[.slice a n c, .slice a' m c'] w fun e w'=>e= .returned (.bool (eqB l l'))∧Below w.heap.size w w':=by
  have k1:=h.max;have k2:=h.few;have k3:=h'.max;have k4:=h'.few
  have HLn:=Lib.hid h.len;have HLm:=Lib.hid h'.len
  by_cases e:n=m
  case neg=>
    go_enter Tryz.func90,Tryz.ntmps90
    have f1:((n:Int) !=(m:Int))=true:=by simp;omega
    go_wp2_with fail
    go_ret
    exact ⟨ret_bool (eqB_no (fun h=>e (by rw [HLn.out,HLm.out,h]))).symm,Below.refl _ _⟩
  subst e
  go_enter Tryz.func90,Tryz.ntmps90
  go_wp2_with fail
  go_loopw [13] (fun i wr=>∃k:Nat,k≤n∧i= .int .i64 k∧Hid (∀j,j<k→l[j]? =l'[j]?)∧Below w.heap.size w wr) (fun i _=>n - (intOf i).toNat)
  case atStart=>exact ⟨0,Nat.zero_le _,rfl,fun j hj=>by omega,Below.refl _ _⟩
  case round=>
    obtain ⟨k,hk,rfl,HJ,hB⟩:=hrel
    by_cases hlt:k<n
    · obtain ⟨b,o,kl,rfl,hb,x1,_⟩:=h.get hlt
      obtain ⟨b',o',kl',rfl,hb',x2,_⟩:=h'.get hlt
      have x1:=x1.keep hB hb
      have x2:=x2.keep hB hb'
      have r0:=later_cell x1.c0;have r1:=later_cell x1.c1;have r2:=later_cell x1.c2
      have s0:=later_cell x2.c0;have s1:=later_cell x2.c1;have s2:=later_cell x2.c2
      clear x1 x2 h h'
      go_wp2_with fail
      have hne:=fun W=>step_neq l[k] l'[k] W
      refine wp_region_later (by kernel_rfl) (by kernel_rfl) ?_
      repeat (go_big_quiet_step (fail))
      refine wpQuiet_nil ?_
      intro _ hw'
      obtain ⟨pq,hw''⟩:=hw'
      subst hw''
      clear r0 r1 r2 s0 s1 s2 hne
      have hB2:=hB.on (below_later wr pq) hB.size
      generalize hx:stNe l[k] (l'[k]'kl')=bx
      cases bx with
      | false=>
        have EV:Hid (eqB l[k] (l'[k]'kl')=true):=by rw [stNe_eqB] at hx;show _=_;simpa using hx
        clear hx
        go_wp2_with fail
        go_roundw
        case rel=>exact ⟨k+1,by omega,by go_num,same_stepB HJ kl kl' EV.out,hB2⟩
        case measure=>simp [intOf];omega
      | true=>
        have EV:Hid (eqB l[k] (l'[k]'kl')=false):=by rw [stNe_eqB] at hx;show _=_;simpa using hx
        clear hx
        go_wp2_with fail
        go_ret
        exact ⟨ret_bool (eqB_no (fun h=>by subst h;exact ne_of_eqB EV.out rfl)).symm,hB2⟩
    · go_wp2_with fail
      go_ret
      exact ⟨ret_bool (eqB_yes (list_of_same HJ.out (by have:=HLn.out;omega) (by have:=HLm.out;omega))).symm,hB⟩
noncomputable def begins {α:Type} (p q:List α):Bool:=eqB (p.take q.length) q
theorem begins_short {α:Type} {p q:List α} (h:p.length<q.length):begins p q=false:=eqB_no fun e=>by
  have:=congrArg List.length e
  simp at this;omega
theorem begins_yes {α:Type} {p q:List α} (h:∀j,j<q.length→p[j]? =q[j]?) (hl:q.length≤p.length):begins p q=true:=eqB_yes (by
  apply List.ext_getElem?
  intro j
  by_cases hj:j<q.length
  · rw [List.getElem?_take_of_lt hj];exact h j hj
  · rw [List.getElem?_eq_none (by simp;omega),List.getElem?_eq_none (by omega)])
theorem begins_no {α:Type} {p q:List α} {j:Nat} (h1:j<p.length) (h2:j<q.length) (h:eqB p[j] q[j] =false):begins p q=false:=eqB_no fun e=>by
  have h3:=congrArg (fun l=>l[j]?) e
  simp only [List.getElem?_take_of_lt h2] at h3
  rw [List.getElem?_eq_getElem h1,List.getElem?_eq_getElem h2] at h3
  exact ne_of_eqB h (Option.some.inj h3)
set_option maxHeartbeats 2000000 in
set_option maxRecDepth 100000 in
theorem refBegins_any (l l':List St) (w:World) (a a':Option Addr) (n m c c':Nat) (h:IsSteps w w.heap.size l a n c) (h':IsSteps w w.heap.size l' a' m c'):
    Calls Tryz.prog 113 #[.slice a n c, .slice a' m c'] w fun e w'=>e= .returned (.bool (begins l l'))∧Below w.heap.size w w':=by
  have k1:=h.max;have k2:=h.few;have k3:=h'.max;have k4:=h'.few
  have HLn:=Lib.hid h.len;have HLm:=Lib.hid h'.len
  by_cases e:n<m
  case pos=>
    go_enter Tryz.func113,Tryz.ntmps113
    go_wp2_with fail
    go_ret
    exact ⟨ret_bool (begins_short (by rw [←HLn.out, ←HLm.out];exact e)).symm,Below.refl _ _⟩
  have e:m≤n:=by omega
  go_enter Tryz.func113,Tryz.ntmps113
  go_wp2_with fail
  go_loopw [5] (fun i wr=>∃k:Nat,k≤m∧i= .int .i64 k∧Hid (∀j,j<k→l[j]? =l'[j]?)∧Below w.heap.size w wr) (fun i _=>m - (intOf i).toNat)
  case atStart=>exact ⟨0,Nat.zero_le _,rfl,fun j hj=>by omega,Below.refl _ _⟩
  case round=>
    obtain ⟨k,hk,rfl,HJ,hB⟩:=hrel
    by_cases hlt:k<m
    · obtain ⟨b,o,kl,rfl,hb,x1,_⟩:=h.get (show k<n by omega)
      obtain ⟨b',o',kl',rfl,hb',x2,_⟩:=h'.get hlt
      have hlt2:k<n:=by omega
      have x1:=x1.keep hB hb
      have x2:=x2.keep hB hb'
      have r0:=later_cell x1.c0;have r1:=later_cell x1.c1;have r2:=later_cell x1.c2
      have s0:=later_cell x2.c0;have s1:=later_cell x2.c1;have s2:=later_cell x2.c2
      clear x1 x2 h h'
      go_wp2_with fail
      have hne:=fun W=>step_neq l[k] l'[k] W
      refine wp_region_later (by kernel_rfl) (by kernel_rfl) ?_
      repeat (go_big_quiet_step (fail))
      refine wpQuiet_nil ?_
      intro _ hw'
      obtain ⟨pq,hw''⟩:=hw'
      subst hw''
      clear r0 r1 r2 s0 s1 s2 hne
      have hB2:=hB.on (below_later wr pq) hB.size
      generalize hx:stNe l[k] (l'[k]'kl')=bx
      cases bx with
      | false=>
        have EV:Hid (eqB l[k] (l'[k]'kl')=true):=by rw [stNe_eqB] at hx;show _=_;simpa using hx
        clear hx
        go_wp2_with fail
        go_roundw
        case rel=>exact ⟨k+1,by omega,by go_num,same_stepB HJ kl kl' EV.out,hB2⟩
        case measure=>simp [intOf];omega
      | true=>
        have EV:Hid (eqB l[k] (l'[k]'kl')=false):=by rw [stNe_eqB] at hx;show _=_;simpa using hx
        clear hx
        go_wp2_with fail
        go_ret
        exact ⟨ret_bool (begins_no kl kl' EV.out).symm,hB2⟩
    · go_wp2_with fail
      go_ret
      exact ⟨ret_bool (begins_yes (fun j hj=>HJ.out j (by have:=HLm.out;omega)) (by have:=HLn.out;have:=HLm.out;omega)).symm,hB⟩
theorem begins_same {p q:List St} (h:p.length=q.length):begins p q=eqB p q:=by
  unfold begins
  rw [List.take_of_length_le (by omega)]
set_option maxHeartbeats 2000000 in
set_option maxRecDepth 100000 in
theorem refPathSame_any (l l':List St) (w:World) (a a':Option Addr) (n m c c':Nat) (h:IsSteps w w.heap.size l a n c) (h':IsSteps w w.heap.size l' a' m c'):
    Calls Tryz.prog 94 #[.slice a n c, .slice a' m c'] w fun e w'=>e= .returned (.bool (eqB l l'))∧Below w.heap.size w w':=by
  have HLn:=Lib.hid h.len;have HLm:=Lib.hid h'.len
  by_cases e:n=m
  case neg=>
    go_enter Tryz.func94,Tryz.ntmps94
    have f1:((n:Int)==(m:Int))=false:=by simp;omega
    go_wp2_with fail
    go_ret
    exact ⟨ret_bool (eqB_no (fun h=>e (by rw [HLn.out,HLm.out,h]))).symm,Below.refl _ _⟩
  subst e
  have hc:=refBegins_any l l' w a a' n n c c' h h'
  rw [begins_same (by rw [←HLn.out, ←HLm.out])] at hc
  have HC:=Lib.hid hc
  clear hc h h'
  go_enter Tryz.func94,Tryz.ntmps94
  have f1:((n:Int)==(n:Int))=true:=by simp
  go_wp2_with (go_at_call 113;refine HC.out.mono ?_;rintro e w' ⟨rfl,hb⟩)
  go_ret
  exact ⟨rfl,hb⟩
set_option maxHeartbeats 2000000 in
set_option maxRecDepth 100000 in
theorem stepBad_any (s:St) (w:World) (hT:Tabs w) (hb:s.Bnd):
    Calls Tryz.prog 91 #[.agg #[.bool s.list, .int .i64 s.i, .string s.key]] w fun e w'=>e= .returned (.bool !s.ok)∧Below w.heap.size w w':=by
  have hsz:=hb.k1
  have hv:=fun W hT=>valid_any s.key W hsz hT
  obtain ⟨ls,i,key⟩:=s
  dsimp only at*
  obtain ⟨vd,hvd⟩:∃vd,Lib.validD key.data.toList=vd:=⟨_,rfl⟩
  rw [hvd] at hv
  have HV:=Lib.hid hv
  have HVD:=Lib.hid hvd
  obtain ⟨be,hbe⟩:∃be,key.toList.isEmpty=be:=⟨_,rfl⟩
  obtain ⟨R,hR⟩:∃R,(!(St.ok ⟨ls,i,key⟩))=R:=⟨_,rfl⟩
  rw [hR]
  have hR2:R= !(if ls then be && decide (0≤i) else i==0 && vd):=by rw [←hR];simp only [St.ok];rw [hbe,hvd]
  have HR:=Lib.hid hR2
  clear hv hvd hR hR2 hb
  cases ls with
  | true=>
    have f0:(key.toList== [])=be:=by rw [←hbe];cases key.toList<;>rfl
    clear hbe
    cases be with
    | false=>
      go_enter Tryz.func91,Tryz.ntmps91
      go_wp2_with fail
      go_ret
      exact ⟨ret_bool (by rw [HR.out];rfl),(Below.refl _ _).alloc (Nat.le_refl _) _⟩
    | true=>
      by_cases hi:i<0
      · go_enter Tryz.func91,Tryz.ntmps91
        go_wp2_with fail
        go_ret
        exact ⟨ret_bool (by rw [HR.out];simp;omega),(Below.refl _ _).alloc (Nat.le_refl _) _⟩
      · go_enter Tryz.func91,Tryz.ntmps91
        go_wp2_with fail
        go_ret
        exact ⟨ret_bool (by rw [HR.out];simp;omega),(Below.refl _ _).alloc (Nat.le_refl _) _⟩
  | false=>
    clear hbe
    by_cases hi:i=0
    · subst hi
      go_enter Tryz.func91,Tryz.ntmps91
      go_wp2_with (go_at_call 60;refine (HV.out _ (hT.below ((Below.refl _ _).alloc (Nat.le_refl _) _))).mono ?_;rintro e w' ⟨rfl,hb⟩)
      go_ret
      exact ⟨ret_bool (by rw [HR.out];simp),hb.one⟩
    · have f1:(i !=0)=true:=by simp [hi]
      have Hi:=Lib.hid hi
      clear hi
      go_enter Tryz.func91,Tryz.ntmps91
      go_wp2_with fail
      go_ret
      exact ⟨ret_bool (by rw [HR.out];simp [Hi.out]),(Below.refl _ _).alloc (Nat.le_refl _) _⟩
end Go.Proofs.YtgcfhkceejcliaaGreatDoor
