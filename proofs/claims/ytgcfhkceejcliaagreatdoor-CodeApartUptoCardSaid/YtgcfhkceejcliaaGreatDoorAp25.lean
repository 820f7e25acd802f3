/-
  Contracts of the functions that the law reaches: What is written of a sound value comes back. No program in sight. Which values may be kept: code.light and conciliatorref10.light; conciliatorref07.Same; slices.ContainsFunc over components; entries: code.Sound and conciliatorref10.Sound. What Build builds is light. No program in sight.
-/
import Derived.Test.YtgcfhkceejcliaaGreatDoorAp14
import Derived.Test.YtgcfhkceejcliaaGreatDoorAp19
import Derived.Test.YtgcfhkceejcliaaGreatDoorAp22
namespace Go.Proofs.YtgcfhkceejcliaaGreatDoor
open Go.RowKit
theorem num_be (n r:Nat):∀a,(be n r).foldl (fun n b=>n*256+b.toNat) a=a*256 ^ r+n % 256 ^ r:=by
  induction r with
  |zero=>intro a;simp [be,Nat.mod_one]
  | succ r ih=>
    intro a
    have h:(UInt8.ofNat (n / 256 ^ r)).toNat=n / 256 ^ r % 256:=by simp
    rw [be,List.foldl_cons,ih,h,Nat.pow_succ,Nat.mod_mul,Nat.add_mul]
    have e:a*256*256 ^ r=a*(256 ^ r*256):=by rw [Nat.mul_assoc,Nat.mul_comm 256]
    rw [e,Nat.mul_comm (n / 256 ^ r % 256)]
    omega
theorem rdN_be (n k:Nat) (r:List UInt8):rdN k (be n k++r)=some (n % 256 ^ k,r):=by
  have hl:=be_length n k
  rw [rdN,if_pos (by rw [List.length_append];omega),List.take_left' hl,List.drop_left' hl,num,num_be]
  simp
theorem rdM_be (n k:Nat) (r:List UInt8) (h:n<256 ^ k) (hr:n≤r.length):rdM k (be n k++r)=some (n,r):=by
  rw [rdM,rdN_be,Nat.mod_eq_of_lt h]
  simp [hr]
theorem rdT_enc (s:ByteArray) (r:List UInt8) (h:s.size<4294967296):rdT (encS s++r)=some (s,r):=by
  have hl:s.data.toList.length=s.size:=by rw [Array.length_toList];rfl
  rw [rdT,encS,List.append_assoc,rdM_be _ _ _ (by simpa using h) (by rw [List.length_append,hl];omega),Option.bind_some,List.take_left' hl,List.drop_left' hl]
theorem rd8_enc (n:Int) (r:List UInt8) (h0: -9223372036854775808≤n) (h1:n≤9223372036854775807):(rdN 8 (be (n % 18446744073709551616).toNat 8++r)).bind (fun q=>some (wrap64 q.1,q.2))=some (n,r):=by
  have e:wrap64 (((n % 18446744073709551616).toNat % 256 ^ 8:Nat):Int)=n:=by
    have e8:(256:Nat) ^ 8=18446744073709551616:=by decide
    rw [e8,wrap64];omega
  rw [rdN_be,Option.bind_some,e]
theorem rdL_enc {α:Type} (f:List UInt8→Option (α×List UInt8)) (g:α→List UInt8) (l:List α) (h:∀x ∈ l,∀r,f (g x++r)=some (x,r)):
    ∀n,n≤l.length→∀r,rdL f n ((l.take n).flatMap g++r)=some (l.take n,r):=by
  intro n
  induction n with
  |zero=>intro _ r;simp [rdL]
  | succ n ih=>
    intro hn r
    have hn':n<l.length:=by omega
    rw [rdL,take_snoc l n hn',List.flatMap_append,List.append_assoc,ih (by omega),Option.bind_some]
    simp [h l[n] (List.getElem_mem hn')]
theorem encL_flat (l:List V):encL l=l.flatMap encV:=by
  induction l with
  |nil=>simp [encL]
  |cons v r ih=>simp [encL,ih]
theorem encO_flat (o:List (ByteArray×V)):encO o=o.flatMap encF:=by
  induction o with
  |nil=>simp [encO]
  |cons v r ih=>simp [encO,ih]
inductive V.Num:V→Prop
  |mk (k n:Int) (s:ByteArray) (l:List V) (o:List (ByteArray×V)) (h0: -9223372036854775808≤n) (h1:n≤9223372036854775807) (hl:∀i (h:i<l.length),V.Num l[i]) (ho:∀i (h:i<o.length),V.Num o[i].2):V.Num (.mk k n s l o)
theorem IsVal.num {w:World} {B:Nat} {v:V} {c:VC} (h:IsVal w B v c):v.Num:=by
  induction h with
  |mk c l o cl co lb lo ob oo hbd hl ho hla hoa hlc hlv hoc hov ihl iho=>exact .mk _ _ _ _ _ hbd.n0 hbd.n1 ihl iho
theorem encL_mem {l:List V} {v:V} (h:v ∈ l):(encV v).length≤(encL l).length:=by
  induction l with
  |nil=>cases h
  | cons x r ih=>
    rw [encL,List.length_append]
    rcases List.mem_cons.1 h with rfl|h
    · omega
    · have:=ih h;omega
theorem encO_mem {o:List (ByteArray×V)} {f:ByteArray×V} (h:f ∈ o):(encS f.1).length+(encV f.2).length≤(encO o).length:=by
  induction o with
  |nil=>cases h
  | cons x r ih=>
    rw [encO,List.length_append]
    rcases List.mem_cons.1 h with rfl|h
    · rw [encF_eq,List.length_append];omega
    · have:=ih h;omega
theorem encV_pos (v:V):1≤(encV v).length:=by
  cases v with
  |mk k n s l o=>rw [encV,List.length_append,be_length];omega
theorem encL_len (l:List V):l.length≤(encL l).length:=by
  induction l with
  |nil=>simp
  |cons x r ih=>rw [encL,List.length_append,List.length_cons];have:=encV_pos x;omega
theorem encO_len (o:List (ByteArray×V)):o.length≤(encO o).length:=by
  induction o with
  |nil=>simp
  |cons x r ih=>rw [encO,List.length_append,List.length_cons,encF_eq,List.length_append];have:=encV_pos x.2;omega
theorem deepL_mem {l:List V} {v:V} (h:v ∈ l):v.deep<deepL l:=by
  induction l with
  |nil=>cases h
  | cons x r ih=>
    rw [deepL]
    rcases List.mem_cons.1 h with rfl|h
    · omega
    · have:=ih h;omega
theorem deepO_mem {o:List (ByteArray×V)} {f:ByteArray×V} (h:f ∈ o):f.2.deep<deepO o:=by
  induction o with
  |nil=>cases h
  | cons x r ih=>
    rw [deepO,deepF_eq]
    rcases List.mem_cons.1 h with rfl|h
    · omega
    · have:=ih h;omega
theorem empty_of {s:ByteArray} (h:s.toList= []):s= .empty:=by
  rw [ByteArray.toList_eq] at h
  have:=congrArg List.toArray h
  cases s with
  |mk a=>simp at this;subst this;rfl
theorem kind_be (k:Nat) (hk:k<6) (x r:List UInt8):rdN 1 (be ((k:Int) % 18446744073709551616).toNat 1++x++r)=some (k,x++r):=by
  have e:((k:Int) % 18446744073709551616).toNat=k:=by omega
  rw [e,List.append_assoc,rdN_be,Nat.mod_eq_of_lt (by omega)]
set_option maxHeartbeats 1000000 in
set_option maxRecDepth 100000 in
theorem rdV_enc (d:Nat):∀v:V,v.deep<d→v.Num→v.sound=true→(encV v).length≤1000000→∀r,rdV d (encV v++r)=some (v,r):=by
  induction d with
  |zero=>intro v h;omega
  | succ d ih=>
    intro v hd hn hs hl r
    cases hn with
    |mk k n s l o h0 h1 hnl hno=>
    rw [V.sound] at hs
    simp only [Bool.and_eq_true] at hs
    obtain ⟨⟨⟨hp,_⟩,hsl⟩,hso⟩:=hs
    rw [soundL_iff] at hsl
    rw [soundO_iff] at hso
    rw [V.deep] at hd
    rw [encV] at hl
    rcases plain_true hp with ⟨rfl,rfl,es,el,eo⟩|⟨rfl,_,es,el,eo⟩|⟨rfl,es,el,eo⟩|⟨rfl,rfl,_,el,eo⟩|⟨rfl,rfl,es,eo⟩|⟨rfl,rfl,es,el⟩
    · have:=empty_of es;have:=List.eq_nil_of_length_eq_zero el;have:=List.eq_nil_of_length_eq_zero eo
      subst s l o
      have hk:=kind_be 0 (by omega) [] r
      rw [encV,if_neg (by omega),if_neg (by omega),if_neg (by omega),if_neg (by omega),rdV]
      rw [show ((0:Nat):Int)=0 from rfl] at hk
      rw [hk];rfl
    · have:=empty_of es;have:=List.eq_nil_of_length_eq_zero el;have:=List.eq_nil_of_length_eq_zero eo
      subst s l o
      have hk:=kind_be 1 (by omega) (be (n % 18446744073709551616).toNat 8) r
      rw [encV,if_pos (by omega),rdV]
      rw [show ((1:Nat):Int)=1 from rfl] at hk
      rw [hk,Option.bind_some,if_pos (by simp),rdN_be,Option.bind_some]
      have e:wrap64 (((n % 18446744073709551616).toNat % 256 ^ 8:Nat):Int)=n:=by
        have e8:(256:Nat) ^ 8=18446744073709551616:=by decide
        rw [e8,wrap64];omega
      rw [e];rfl
    · have:=empty_of es;have:=List.eq_nil_of_length_eq_zero el;have:=List.eq_nil_of_length_eq_zero eo
      subst s l o
      have hk:=kind_be 2 (by omega) (be (n % 18446744073709551616).toNat 8) r
      rw [encV,if_pos (by omega),rdV]
      rw [show ((2:Nat):Int)=2 from rfl] at hk
      rw [hk,Option.bind_some,if_pos (by simp),rdN_be,Option.bind_some]
      have e:wrap64 (((n % 18446744073709551616).toNat % 256 ^ 8:Nat):Int)=n:=by
        have e8:(256:Nat) ^ 8=18446744073709551616:=by decide
        rw [e8,wrap64];omega
      rw [e];rfl
    · have:=List.eq_nil_of_length_eq_zero el;have:=List.eq_nil_of_length_eq_zero eo
      subst l o
      have hk:=kind_be 3 (by omega) (encS s) r
      rw [if_neg (by omega),if_pos rfl,List.length_append,be_length,encS_length] at hl
      rw [encV,if_neg (by omega),if_pos rfl,rdV]
      rw [show ((3:Nat):Int)=3 from rfl] at hk
      rw [hk,Option.bind_some,if_neg (by simp),if_pos rfl,rdT_enc s r (by omega)];rfl
    · have:=empty_of es;have:=List.eq_nil_of_length_eq_zero eo
      subst s o
      have hk:=kind_be 4 (by omega) (be l.length 4++encL l) r
      rw [if_neg (by omega),if_neg (by omega),if_pos rfl,List.length_append,be_length,List.length_append,be_length] at hl
      have hll:=encL_len l
      rw [encV,if_neg (by omega),if_neg (by omega),if_pos rfl,rdV]
      rw [show ((4:Nat):Int)=4 from rfl] at hk
      have hL:=rdL_enc (fun x=>rdV d x) encV l (fun x hx r=>ih x (by have:=deepL_mem hx;omega) (by obtain ⟨i,hi,rfl⟩:=List.mem_iff_getElem.1 hx;exact hnl i hi) (hsl x hx) (by have:=encL_mem hx;omega) r) l.length (Nat.le_refl _) r
      rw [List.take_length] at hL
      rw [hk,Option.bind_some,if_neg (by simp),if_neg (by simp),if_pos rfl,List.append_assoc,rdM_be _ _ _ (by omega) (by rw [List.length_append];omega),Option.bind_some,encL_flat,hL];rfl
    · have:=empty_of es;have:=List.eq_nil_of_length_eq_zero el
      subst s l
      have hk:=kind_be 5 (by omega) (be o.length 4++encO o) r
      rw [if_neg (by omega),if_neg (by omega),if_neg (by omega),if_pos rfl,List.length_append,be_length,List.length_append,be_length] at hl
      have hll:=encO_len o
      rw [encV,if_neg (by omega),if_neg (by omega),if_neg (by omega),if_pos rfl,rdV]
      rw [show ((5:Nat):Int)=5 from rfl] at hk
      have hL:=rdL_enc (fun x=>(rdT x).bind fun y=>(rdV d y.2).bind fun z=>some ((y.1,z.1),z.2)) encF o (fun x hx r=>by
        have hm:=encO_mem hx
        rw [encS_length] at hm
        rw [encF_eq,List.append_assoc,rdT_enc x.1 _ (by omega),Option.bind_some,ih x.2 (by have:=deepO_mem hx;omega) (by obtain ⟨i,hi,rfl⟩:=List.mem_iff_getElem.1 hx;exact hno i hi) (hso x hx).2 (by omega) r];rfl) o.length (Nat.le_refl _) r
      rw [List.take_length] at hL
      rw [hk,Option.bind_some,if_neg (by simp),if_neg (by simp),if_neg (by simp),if_pos rfl,List.append_assoc,rdM_be _ _ _ (by omega) (by rw [List.length_append];omega),Option.bind_some,encO_flat,hL];rfl
end Go.Proofs.YtgcfhkceejcliaaGreatDoor
namespace Go.Proofs.YtgcfhkceejcliaaGreatDoor
open Go.RowKit
theorem CompAt.c7 {w:World} {b o:Nat} {c:CC} (h:CompAt w b o c):w.cell? ⟨b,o+7,none⟩=some (.int .i64 c.v.n):=h.c6.c1
theorem CompAt.c8 {w:World} {b o:Nat} {c:CC} (h:CompAt w b o c):w.cell? ⟨b,o+8,none⟩=some (.string c.v.s):=h.c6.c2
theorem CompAt.c9 {w:World} {b o:Nat} {c:CC} (h:CompAt w b o c):w.cell? ⟨b,o+9,none⟩=some (.slice c.v.la c.v.ll c.v.lc):=h.c6.c3
theorem CompAt.c10 {w:World} {b o:Nat} {c:CC} (h:CompAt w b o c):w.cell? ⟨b,o+10,none⟩=some (.slice c.v.oa c.v.ol c.v.oc):=h.c6.c4
theorem EntryAt.c4 {w:World} {b o:Nat} {c:EC} (h:EntryAt w b o c):w.cell? ⟨b,o+4,none⟩=some (.int .i64 c.v.n):=h.c3.c1
theorem EntryAt.c5 {w:World} {b o:Nat} {c:EC} (h:EntryAt w b o c):w.cell? ⟨b,o+5,none⟩=some (.string c.v.s):=h.c3.c2
theorem EntryAt.c6 {w:World} {b o:Nat} {c:EC} (h:EntryAt w b o c):w.cell? ⟨b,o+6,none⟩=some (.slice c.v.la c.v.ll c.v.lc):=h.c3.c3
theorem EntryAt.c7 {w:World} {b o:Nat} {c:EC} (h:EntryAt w b o c):w.cell? ⟨b,o+7,none⟩=some (.slice c.v.oa c.v.ol c.v.oc):=h.c3.c4
theorem Boxed1.next {w W W1 W2:World} {B:Nat} {c:VC} (h:Boxed1 w W c) (hb:Below B W1 W2) (hW:Below W.heap.size W W1) (hB:B=W1.heap.size):Boxed1 w W2 c:=by
  subst hB;exact (h.step hW).step hb
theorem Boxed1C.next {w W W1 W2:World} {B:Nat} {c:CC} (h:Boxed1C w W c) (hb:Below B W1 W2) (hW:Below W.heap.size W W1) (hB:B=W1.heap.size):Boxed1C w W2 c:=by
  subst hB;exact (h.step hW).step hb
def lightB (v:V):Bool:=v.sound && decide (v.deep≤16) && decide (v.weight≤20000)
set_option maxHeartbeats 4000000 in
set_option maxRecDepth 100000 in
theorem light_any (v:V) (w:World) (hT:Tabs w) (c:VC) (hv:IsVal w w.heap.size v c) (hw:v.weight≤4611686018427387904):
    Calls Tryz.prog 30 #[.agg #[.int .u8 c.k, .int .i64 c.n, .string c.s, .slice c.la c.ll c.lc, .slice c.oa c.ol c.oc]] w fun e w'=>e= .returned (.bool (lightB v))∧Below w.heap.size w w':=by
  obtain ⟨sd,hsd⟩:∃sd,v.sound=sd:=⟨_,rfl⟩
  obtain ⟨dp,hdp⟩:∃dp,v.deep=dp:=⟨_,rfl⟩
  obtain ⟨wt,hwt⟩:∃wt,v.weight=wt:=⟨_,rfl⟩
  have HSD:Hid (Behind w 53 #[.agg #[.int .u8 c.k, .int .i64 c.n, .string c.s, .slice c.la c.ll c.lc, .slice c.oa c.ol c.oc]] (.bool sd)):=fun W hW=>by rw [←hsd];exact valSound_any v W c (hv.later_ hW) (hT.below hW)
  have HDP:Hid (Behind w 54 #[.agg #[.int .u8 c.k, .int .i64 c.n, .string c.s, .slice c.la c.ll c.lc, .slice c.oa c.ol c.oc]] (.int .i64 dp)):=fun W hW=>by rw [←hdp];exact valDeep_any v hw W c (hv.later_ hW)
  have HWT:Hid (Behind w 55 #[.agg #[.int .u8 c.k, .int .i64 c.n, .string c.s, .slice c.la c.ll c.lc, .slice c.oa c.ol c.oc]] (.int .i64 wt)):=fun W hW=>by rw [←hwt];exact valWeight_any v hw W c (hv.later_ hW)
  have k4:wt≤4611686018427387904:=by omega
  have k5:dp≤4611686018427387904:=by have:=v.deep_lt;omega
  have hR2:lightB v=(sd && decide (dp≤16) && decide (wt≤20000)):=by rw [lightB,hsd,hdp,hwt]
  have HR:=Lib.hid hR2
  have bx:=boxed1_start w c 33
  clear hsd hdp hwt hR2 hv hw hT
  go_enter Tryz.func30,Tryz.ntmps30
  cases sd with
  |false=>go_wp2_with (go_at_call 53;(with_reducible refine (Behind.at_ (HSD.out) ?_).mono ?_);(focus (have:=bx.below;have:=bx.size;go_grown));rintro e w1 ⟨rfl,hb1⟩;replace bx:=bx.next hb1 (by go_grown) rfl;have zs:w.heap.size<w1.heap.size:=bx.size;have y0:=bx.a.c0;have y1:=bx.a.c1;have y2:=bx.a.c2;have y3:=bx.a.c3;have y4:=bx.a.c4);go_ret;exact ⟨ret_bool (by rw [HR.out];first|(simp [*];done)|(simp [*];try omega)),by have:=bx.below;have:=bx.size;go_grown⟩
  |true=>
  go_wp2_with (go_at_call 53;(with_reducible refine (Behind.at_ (HSD.out) ?_).mono ?_);(focus (have:=bx.below;have:=bx.size;go_grown));rintro e w1 ⟨rfl,hb1⟩;replace bx:=bx.next hb1 (by go_grown) rfl;have zs:w.heap.size<w1.heap.size:=bx.size;have y0:=bx.a.c0;have y1:=bx.a.c1;have y2:=bx.a.c2;have y3:=bx.a.c3;have y4:=bx.a.c4)
  by_cases hd:dp≤16
  case neg=>
    have hdB:decide ((dp:Int)≤16)=false:=by simp;omega
    go_wp2_with (go_at_call 54;(with_reducible refine (Behind.at_ (HDP.out) ?_).mono ?_);(focus (have:=bx.below;have:=bx.size;go_grown));rintro e w1 ⟨rfl,hb1⟩;replace bx:=bx.next hb1 (by go_grown) rfl;have zs:w.heap.size<w1.heap.size:=bx.size;have y0:=bx.a.c0;have y1:=bx.a.c1;have y2:=bx.a.c2;have y3:=bx.a.c3;have y4:=bx.a.c4);go_ret;exact ⟨ret_bool (by rw [HR.out];first|(simp [*];done)|(simp [*];try omega)),by have:=bx.below;have:=bx.size;go_grown⟩
  have hdB:decide ((dp:Int)≤16)=true:=by simp;omega
  go_wp2_with (first|(go_at_call 54;(with_reducible refine (Behind.at_ (HDP.out) ?_).mono ?_);(focus (have:=bx.below;have:=bx.size;go_grown));rintro e w1 ⟨rfl,hb1⟩;replace bx:=bx.next hb1 (by go_grown) rfl;have zs:w.heap.size<w1.heap.size:=bx.size;have y0:=bx.a.c0;have y1:=bx.a.c1;have y2:=bx.a.c2;have y3:=bx.a.c3;have y4:=bx.a.c4)|(go_at_call 55;(with_reducible refine (Behind.at_ (HWT.out) ?_).mono ?_);(focus (have:=bx.below;have:=bx.size;go_grown));rintro e w1 ⟨rfl,hb1⟩;replace bx:=bx.next hb1 (by go_grown) rfl;have zs:w.heap.size<w1.heap.size:=bx.size;have y0:=bx.a.c0;have y1:=bx.a.c1;have y2:=bx.a.c2;have y3:=bx.a.c3;have y4:=bx.a.c4))
  go_ret;exact ⟨ret_bool (by rw [HR.out];first|(simp [*];done)|(simp [*];try omega)),by have:=bx.below;have:=bx.size;go_grown⟩
set_option maxHeartbeats 2000000 in
set_option maxRecDepth 100000 in
theorem indexComp_any (l:List Cm) (w:World) (a:Option Addr) (n c:Nat) (h:IsComps w w.heap.size l a n c) (p:Cm→Bool) (g:Nat) (eg:∀args w,(callFunc g args).run Tryz.prog w= .ok (.enter g args) w)
    (hg:∀(x:Cm) (d:CC) (W:World),x ∈ l→Below w.heap.size w W→IsComp W W.heap.size x d→Calls Tryz.prog g #[.agg #[.int .u8 d.k, .slice d.pa d.pl d.pc, .string d.key, .int .i64 d.i, .int .i64 d.j, .int .i64 d.n, .int .u8 d.v.k, .int .i64 d.v.n, .string d.v.s, .slice d.v.la d.v.ll d.v.lc, .slice d.v.oa d.v.ol d.v.oc, .string d.s]] W fun e w'=>e= .returned (.bool (p x))∧Below W.heap.size W w'):
    Calls Tryz.prog 56 #[.slice a n c, .func (.func g) #[] #[]] w fun e w'=>(∃r:Int,e= .returned (.int .i64 r)∧Hid (decide (0≤r)=l.any p)∧ -1≤r∧r≤9223372036854775807)∧Below w.heap.size w w':=by
  have k1:=h.max;have k2:=h.few
  have HLn:=Lib.hid h.len
  have HG:=Lib.hid hg
  clear hg
  go_enter Tryz.func56,Tryz.ntmps56
  go_wp2_with fail
  go_loopw [5,8] (fun _ i wr=>∃k:Nat,k≤n∧i= .int .i64 k∧Hid (∀j,j<k→∀hj:j<l.length,p l[j] =false)∧Below w.heap.size w wr) (fun _ i _=>n - (intOf i).toNat)
  case atStart=>exact ⟨0,Nat.zero_le _,rfl,fun j hj=>by omega,Below.refl _ _⟩
  case round=>
    obtain ⟨k,hk,rfl,HJ,hB⟩:=hrel
    by_cases hlt:k<n
    · obtain ⟨b,o,d,kl,rfl,hb,x1,xb⟩:=h.get hlt
      have x1:=x1.keep hB hb
      have r0:=x1.c0;have r1:=x1.c1;have r2:=x1.c2;have r3:=x1.c3;have r4:=x1.c4;have r5:=x1.c5;have r6:=x1.c6.c0;have r7:=x1.c7;have r8:=x1.c8;have r9:=x1.c9;have r10:=x1.c10;have r11:=x1.c11
      have hc:=HG.out l[k] d wr (List.getElem_mem kl) hB (xb.later_ hB)
      clear x1 h
      generalize hx:p l[k] =bx at hc
      have HX:=Lib.hid hx
      have HC:=Lib.hid hc
      clear hx hc
      cases bx with
      | false=>
        go_wp2_with (go_at_fn g;refine HC.out.mono ?_;rintro e w' ⟨rfl,hb'⟩)
        go_roundw
        case rel=>exact ⟨k+1,by omega,by go_num,none_step HJ kl HX.out,hB.on hb' hB.size⟩
        case measure=>simp [intOf];omega
      | true=>
        go_wp2_with (go_at_fn g;refine HC.out.mono ?_;rintro e w' ⟨rfl,hb'⟩)
        go_ret
        exact ⟨⟨k,rfl,by show _=_;rw [any_hit kl HX.out];simp,by omega,by omega⟩,hB.on hb' hB.size⟩
    · go_wp2_with fail
      go_ret
      exact ⟨⟨-1,rfl,by show _=_;rw [any_none (n:=n) HLn.out (fun j hj=>HJ.out j (by omega))];rfl,by omega,by omega⟩,hB⟩
set_option maxHeartbeats 2000000 in
set_option maxRecDepth 100000 in
theorem containsComp_any (l:List Cm) (w:World) (a:Option Addr) (n c:Nat) (h:IsComps w w.heap.size l a n c) (p:Cm→Bool) (g:Nat) (eg:∀args w,(callFunc g args).run Tryz.prog w= .ok (.enter g args) w)
    (hg:∀(x:Cm) (d:CC) (W:World),x ∈ l→Below w.heap.size w W→IsComp W W.heap.size x d→Calls Tryz.prog g #[.agg #[.int .u8 d.k, .slice d.pa d.pl d.pc, .string d.key, .int .i64 d.i, .int .i64 d.j, .int .i64 d.n, .int .u8 d.v.k, .int .i64 d.v.n, .string d.v.s, .slice d.v.la d.v.ll d.v.lc, .slice d.v.oa d.v.ol d.v.oc, .string d.s]] W fun e w'=>e= .returned (.bool (p x))∧Below W.heap.size W w'):
    Calls Tryz.prog 31 #[.slice a n c, .func (.func g) #[] #[]] w fun e w'=>e= .returned (.bool (l.any p))∧Below w.heap.size w w':=by
  have k1:=h.max;have k2:=h.few
  have hc:=indexComp_any l w a n c h p g eg hg
  have HC:=Lib.hid hc
  clear hg hc h eg
  go_enter Tryz.func31,Tryz.ntmps31
  go_wp2_with (go_at_call 56;refine HC.out.mono ?_;rintro e w' ⟨⟨r,rfl,hr,h1,h2⟩,hb⟩)
  go_ret
  exact ⟨ret_bool (by rw [←hr.out]),hb⟩
set_option maxHeartbeats 2000000 in
set_option maxRecDepth 100000 in
theorem compBad_any (x:Cm) (w:World) (hT:Tabs w) (c:CC) (hx:IsComp w w.heap.size x c) (hw:x.v.weight≤4611686018427387904):
    Calls Tryz.prog 32 #[.agg #[.int .u8 c.k, .slice c.pa c.pl c.pc, .string c.key, .int .i64 c.i, .int .i64 c.j, .int .i64 c.n, .int .u8 c.v.k, .int .i64 c.v.n, .string c.v.s, .slice c.v.la c.v.ll c.v.lc, .slice c.v.oa c.v.ol c.v.oc, .string c.s]] w fun e w'=>e= .returned (.bool (!cmSound x))∧Below w.heap.size w w':=by
  have HC:Hid (∀W,Below w.heap.size w W→Calls Tryz.prog 33 #[.agg #[.int .u8 c.k, .slice c.pa c.pl c.pc, .string c.key, .int .i64 c.i, .int .i64 c.j, .int .i64 c.n, .int .u8 c.v.k, .int .i64 c.v.n, .string c.v.s, .slice c.v.la c.v.ll c.v.lc, .slice c.v.oa c.v.ol c.v.oc, .string c.s]] W fun e w'=>e= .returned (.bool (cmSound x))∧Below W.heap.size W w'):=fun W hW=>compSound_any x W (hT.below hW) c (hx.later_ hW) hw
  clear hx hT
  go_enter Tryz.func32,Tryz.ntmps32
  go_wp2_with (go_at_call 33;refine (HC.out _ ((Below.refl _ _).alloc (Nat.le_refl _) _)).mono ?_;rintro e w' ⟨rfl,hb⟩)
  go_ret
  exact ⟨rfl,hb.one⟩
end Go.Proofs.YtgcfhkceejcliaaGreatDoor
namespace Go.Proofs.YtgcfhkceejcliaaGreatDoor
open Go.RowKit
theorem low_lt (b:UInt8):(low b).toNat<128:=by
  unfold low;rw [UInt8.toNat_ofNat'];omega
theorem valid_low {l:List UInt8} (h:∀b ∈ l,b.toNat<128):Lib.validD l=true:=by
  have:=Lib.validD_ascii l.length l (fun b hb=>h b (List.mem_of_mem_take hb))
  rw [this,List.drop_length];rfl
theorem plainS_valid (s:ByteArray):Lib.validD (plainS s).data.toList=true:=by
  refine valid_low fun b hb=> ?_
  have:b ∈ plainL s.data.toList:=by simpa [plainS] using hb
  obtain ⟨c,_,rfl⟩:=List.mem_map.1 this
  exact low_lt c
theorem keyP_valid (l:List Tk) (u:Nat):Lib.validD (keyP l u).data.toList=true:=by
  unfold keyP
  split
  · exact plainS_valid _
  · rfl
theorem fieldK_lt (o:List (ByteArray×V)) (key:ByteArray):∀i a,o[i]? =some a→i<fieldK o key→Op.bytesLess a.1.toList key.toList=true:=by
  unfold fieldK
  induction o with
  |nil=>intro i a h;simp at h
  | cons f o ih=>
    intro i a h hi
    by_cases hf:Op.bytesLess f.1.toList key.toList=true
    · rw [List.takeWhile_cons,if_pos hf,List.length_cons] at hi
      cases i with
      |zero=>simp at h;subst h;exact hf
      |succ i=>exact ih i a (by simpa using h) (by omega)
    · rw [List.takeWhile_cons,if_neg hf] at hi
      simp at hi
theorem fieldK_stop (o:List (ByteArray×V)) (key:ByteArray):∀a,o[fieldK o key]? =some a→Op.bytesLess a.1.toList key.toList=false:=by
  unfold fieldK
  induction o with
  |nil=>intro a h;simp at h
  | cons f o ih=>
    intro a h
    by_cases hf:Op.bytesLess f.1.toList key.toList=true
    · rw [List.takeWhile_cons,if_pos hf,List.length_cons] at h
      exact ih a (by simpa using h)
    · rw [List.takeWhile_cons,if_neg hf] at h
      simp at h;subst h
      cases hq:Op.bytesLess f.1.toList key.toList with
      |true=>exact absurd hq hf
      |false=>rfl
theorem rising_get {o:List (ByteArray×V)} :rising o=true↔∀i a b,o[i]? =some a→o[i+1]? =some b→Op.bytesLess a.1.toList b.1.toList=true:=by
  rw [rising_iff]
  constructor
  · intro h i a b ha hb
    have hb1:=(List.getElem?_eq_some_iff.1 hb).1
    have:=h i hb1
    rw [List.getElem?_eq_getElem (by omega)] at ha
    rw [List.getElem?_eq_getElem hb1] at hb
    injection ha with ha;injection hb with hb
    rw [←ha, ←hb];exact this
  · intro h i hi
    exact h i _ _ (List.getElem?_eq_getElem (by omega)) (List.getElem?_eq_getElem hi)
theorem rising_with {o:List (ByteArray×V)} (key:ByteArray) (x:V) (h:rising o=true):rising (withF o key x)=true:=by
  rw [rising_get] at h ⊢
  obtain ⟨k,hk⟩:∃k,fieldK o key=k:=⟨_,rfl⟩
  have hkl:=fieldK_le o key
  have hlt:=fieldK_lt o key
  have hst:=fieldK_stop o key
  obtain ⟨k',hk'⟩:∃k',(if fieldIs o key=true then fieldK o key+1 else fieldK o key)=k':=⟨_,rfl⟩
  have hnext:∀b,o[k']? =some b→Op.bytesLess key.toList b.1.toList=true:=by
    intro b hb
    by_cases e:fieldIs o key=true
    · rw [if_pos e,hk] at hk'
      unfold fieldIs at e
      rw [hk] at e
      cases hf:o[k]? with
      |none=>rw [hf] at e;cases e
      | some f=>
        rw [hf] at e
        have e:f.1.toList=key.toList:=by simpa using e
        rw [←e]
        rw [←hk'] at hb
        exact h k f b hf hb
    · rw [if_neg e,hk] at hk'
      unfold fieldIs at e
      rw [←hk'] at hb
      have h1:=hst b (by rw [hk];exact hb)
      rw [hk,hb] at e
      rcases less_total b.1.toList key.toList with h2|h2|h2
      · rw [h1] at h2;cases h2
      · exact absurd (by simpa using h2) e
      · exact h2
  rw [hk] at hkl hlt
  have hw:withF o key x=o.take k++(key,x)::o.drop k':=by rw [withF,hk',hk]
  rw [hw]
  have l1:(o.take k).length=k:=by rw [List.length_take,Nat.min_eq_left hkl]
  have g1:∀i,i<k→(o.take k++(key,x)::o.drop k')[i]? =o[i]? :=fun i hi=>by
    rw [List.getElem?_append_left (by omega),List.getElem?_take_of_lt hi]
  have g2:(o.take k++(key,x)::o.drop k')[k]? =some (key,x):=by
    rw [List.getElem?_append_right (by omega),l1,Nat.sub_self];rfl
  have g3:∀m,(o.take k++(key,x)::o.drop k')[k+1+m]? =o[k'+m]? :=fun m=>by
    rw [List.getElem?_append_right (by omega),l1,show k+1+m - k=m+1 by omega,List.getElem?_cons_succ,List.getElem?_drop]
  intro i a b ha hb
  by_cases e1:i+1<k
  · rw [g1 _ (by omega)] at ha
    rw [g1 _ e1] at hb
    exact h i a b ha hb
  · by_cases e2:i+1=k
    · rw [g1 _ (by omega)] at ha
      rw [e2,g2] at hb
      injection hb with hb;subst hb
      exact hlt i a ha (by omega)
    · by_cases e3:i=k
      · subst e3
        rw [g2] at ha
        injection ha with ha;subst ha
        have:=g3 0
        rw [Nat.add_zero,Nat.add_zero] at this
        rw [this] at hb
        exact hnext b hb
      · obtain ⟨m,rfl⟩:∃m,i=k+1+m:=⟨i - k - 1,by omega⟩
        rw [g3] at ha
        rw [show k+1+m+1=k+1+(m+1) by omega,g3] at hb
        exact h (k'+m) a b ha hb
theorem withF_mem {o:List (ByteArray×V)} {key:ByteArray} {x:V} {f:ByteArray×V} (h:f ∈ withF o key x):f ∈ o∨f=(key,x):=by
  unfold withF at h
  rcases List.mem_append.1 h with h|h
  · exact .inl (List.mem_of_mem_take h)
  · rcases List.mem_cons.1 h with h|h
    · exact .inr h
    · exact .inl (List.mem_of_mem_drop h)
theorem withF_sum (g:ByteArray×V→Nat) (o:List (ByteArray×V)) (key:ByteArray) (x:V):((withF o key x).map g).sum≤(o.map g).sum+g (key,x):=by
  have hd:∀n,((o.drop (n+1)).map g).sum≤((o.drop n).map g).sum:=fun n=>by
    rw [←List.drop_drop,List.drop_one]
    cases o.drop n with
    |nil=>simp
    |cons a r=>simp
  have ht:((o.take (fieldK o key)).map g).sum+((o.drop (fieldK o key)).map g).sum=(o.map g).sum:=by
    rw [←List.sum_append, ←List.map_append,List.take_append_drop]
  unfold withF
  rw [List.map_append,List.map_cons,List.sum_append,List.sum_cons]
  split
  · have:=hd (fieldK o key);omega
  · omega
theorem weightO_sum (o:List (ByteArray×V)):weightO o=(o.map fun f=>f.1.size+f.2.weight).sum:=by
  induction o with
  |nil=>rfl
  |cons f r ih=>rw [weightO,weightF_eq,ih,List.map_cons,List.sum_cons]
theorem encO_sum (o:List (ByteArray×V)):(encO o).length=(o.map fun f=>(encF f).length).sum:=by
  induction o with
  |nil=>rfl
  |cons f r ih=>rw [encO,List.length_append,ih,List.map_cons,List.sum_cons]
theorem deepL_le {l:List V} {n:Nat} (h:∀v ∈ l,v.deep+1≤n):deepL l≤n:=by
  induction l with
  |nil=>simp [deepL]
  | cons v r ih=>
    rw [deepL]
    have h1:=h v (by simp)
    have h2:=ih fun x hx=>h x (by simp [hx])
    omega
theorem deepO_le {o:List (ByteArray×V)} {n:Nat} (h:∀f ∈ o,f.2.deep+1≤n):deepO o≤n:=by
  induction o with
  |nil=>simp [deepO]
  | cons v r ih=>
    rw [deepO,deepF_eq]
    have h1:=h v (by simp)
    have h2:=ih fun x hx=>h x (by simp [hx])
    omega
structure Built (d:Nat) (v:V) (u:Nat):Prop where
  sound:v.sound=true
  deep:v.deep≤d
  wt:v.weight+40≤81*(3*u+1)
  len:(encV v).length+44≤90*(3*u+1)
theorem built_none (d:Nat):Built d V.none 0:=⟨by simp [V.none,V.sound,plainB,rising,soundL,soundO],by simp [V.none,V.deep,deepL,deepO],by simp [V.none,V.weight,weightL,weightO],by simp [V.none,encV,be_length]⟩
theorem Built.more {d u u':Nat} {v:V} (h:Built d v u) (hu:u≤u'):Built d v u':=⟨h.sound,h.deep,by have:=h.wt;omega,by have:=h.len;omega⟩
theorem built_leaf (d:Nat) (t:Tk):Built d (leafP t) 1:=by
  have hp:=plainS_size t.s
  have hv:=plainS_valid t.s
  unfold leafP
  split
  · have:t.n % 2=0∨t.n % 2=1:=by omega
    refine ⟨?_,by simp [V.deep,deepL,deepO],by simp [V.weight,weightL,weightO],by simp [encV,be_length]⟩
    rcases this with h|h<;>simp [h,V.sound,plainB,rising,soundL,soundO]
  · split
    · exact ⟨by simp [V.sound,plainB,rising,soundL,soundO],by simp [V.deep,deepL,deepO],by simp [V.weight,weightL,weightO],by simp [encV,be_length]⟩
    · split
      · exact ⟨by simp [V.sound,plainB,rising,soundL,soundO,hv],by simp [V.deep,deepL,deepO],by simp [V.weight,weightL,weightO];omega,by simp [encV,be_length,encS_length];omega⟩
      · split
        · exact ⟨by simp [V.sound,plainB,rising,soundL,soundO],by simp [V.deep,deepL,deepO],by simp [V.weight,weightL,weightO],by simp [encV,encL,be_length]⟩
        · split
          · exact ⟨by simp [V.sound,plainB,rising,soundL,soundO],by simp [V.deep,deepL,deepO],by simp [V.weight,weightL,weightO],by simp [encV,encO,be_length]⟩
          · exact (built_none d).more (by omega)
theorem built_L {d:Nat} {f:List Tk→V×Nat} (hf:∀l,Built d (f l).1 (f l).2) (l:List Tk):∀j,(∀v ∈ (bL f l j).1,v.sound=true∧v.deep≤d)∧1≤(bL f l j).2∧weightL (bL f l j).1+40*j≤81*(3*((bL f l j).2 - 1)+j)∧(encL (bL f l j).1).length+44*j≤90*(3*((bL f l j).2 - 1)+j):=by
  intro j
  induction j with
  |zero=>exact ⟨by simp [bL],by simp [bL],by simp [bL,weightL],by simp [bL,encL]⟩
  | succ j ih=>
    obtain ⟨h1,h2,h3,h4⟩:=ih
    rw [bL]
    have hb:=hf (l.drop (bL f l j).2)
    have hw:=hb.wt
    have hn:=hb.len
    dsimp only
    rw [weightL_append,encL_append,List.length_append]
    simp only [weightL,encL,List.append_nil]
    refine ⟨fun v hv=> ?_,by omega,by omega,by omega⟩
    rcases List.mem_append.1 hv with hv|hv
    · exact h1 v hv
    · rw [List.mem_singleton] at hv;subst hv;exact ⟨hb.sound,hb.deep⟩
theorem built_O {d:Nat} {f:List Tk→V×Nat} (hf:∀l,Built d (f l).1 (f l).2) (l:List Tk):∀j,(∀g ∈ (bO f l j).1,Lib.validD g.1.data.toList=true∧g.2.sound=true∧g.2.deep≤d)∧rising (bO f l j).1=true∧1≤(bO f l j).2∧weightO (bO f l j).1≤81*(3*((bO f l j).2 - 1)+j)∧(encO (bO f l j).1).length≤90*(3*((bO f l j).2 - 1)+j):=by
  intro j
  induction j with
  |zero=>exact ⟨by simp [bO],by simp [bO,rising],by simp [bO],by simp [bO,weightO],by simp [bO,encO]⟩
  | succ j ih=>
    obtain ⟨h1,h5,h2,h3,h4⟩:=ih
    rw [bO]
    have hb:=hf (l.drop (bO f l j).2)
    have hw:=hb.wt
    have hn:=hb.len
    have hk:=keyP_size l (bO f l j).2
    have s1:=withF_sum (fun f=>f.1.size+f.2.weight) (bO f l j).1 (keyP l (bO f l j).2) (f (l.drop (bO f l j).2)).1
    have s2:=withF_sum (fun f=>(encF f).length) (bO f l j).1 (keyP l (bO f l j).2) (f (l.drop (bO f l j).2)).1
    rw [←weightO_sum, ←weightO_sum] at s1
    rw [←encO_sum, ←encO_sum] at s2
    rw [encF_eq,List.length_append,encS_length] at s2
    dsimp only at*
    refine ⟨fun v hv=> ?_,rising_with _ _ h5,by omega,by omega,by omega⟩
    rcases withF_mem hv with hv|hv
    · exact h1 v hv
    · subst hv;exact ⟨keyP_valid _ _,hb.sound,hb.deep⟩
theorem oneP_built (d:Nat):∀l,Built d (oneP d l).1 (oneP d l).2:=by
  induction d with
  | zero=>
    intro l
    cases l with
    |nil=>exact built_none 0
    |cons t r=>exact built_leaf 0 t
  | succ d ih=>
    intro l
    cases l with
    |nil=>exact built_none _
    | cons t r=>
      have hK:(t.m % 4).toNat≤3:=by omega
      obtain ⟨K,hk⟩:∃K,(t.m % 4).toNat=K:=⟨_,rfl⟩
      rw [oneP,hk]
      rw [hk] at hK
      split
      · obtain ⟨h1,h2,h3,h4⟩:=built_L ih (t::r) K
        obtain ⟨p,hp⟩:∃p,bL (oneP d) (t::r) K=p:=⟨_,rfl⟩
        rw [hp] at h1 h2 h3 h4 ⊢
        refine ⟨?_, ?_, ?_, ?_⟩
        · simp only [V.sound,Bool.and_eq_true]
          exact ⟨⟨⟨by simp [plainB],rfl⟩,(soundL_iff _).2 fun v hv=>(h1 v hv).1⟩,rfl⟩
        · simp only [V.deep,deepO]
          have:=deepL_le (n:=d+1) fun v hv=>by have:=(h1 v hv).2;omega
          omega
        · simp only [V.weight,weightO,show ByteArray.empty.size=0 from rfl];omega
        · rw [encV,if_neg (by omega),if_neg (by omega),if_pos rfl,List.length_append,List.length_append,be_length,be_length];omega
      · split
        · obtain ⟨h1,h5,h2,h3,h4⟩:=built_O ih (t::r) K
          obtain ⟨p,hp⟩:∃p,bO (oneP d) (t::r) K=p:=⟨_,rfl⟩
          rw [hp] at h1 h5 h2 h3 h4 ⊢
          refine ⟨?_, ?_, ?_, ?_⟩
          · simp only [V.sound,Bool.and_eq_true]
            exact ⟨⟨⟨by simp [plainB],h5⟩,rfl⟩,(soundO_iff _).2 fun v hv=>⟨(h1 v hv).1,(h1 v hv).2.1⟩⟩
          · simp only [V.deep,deepL]
            have:=deepO_le (n:=d+1) fun v hv=>by have:=(h1 v hv).2.2;omega
            omega
          · simp only [V.weight,weightL,show ByteArray.empty.size=0 from rfl];omega
          · rw [encV,if_neg (by omega),if_neg (by omega),if_neg (by omega),if_pos rfl,List.length_append,List.length_append,be_length,be_length];omega
        · exact built_leaf _ t
theorem build_light (l:List Tk):lightB (oneP 6 (l.take 60)).1=true∧(oneP 6 (l.take 60)).1.weight≤20000∧(oneP 6 (l.take 60)).1.deep≤6∧(oneP 6 (l.take 60)).1.sound=true∧(encV (oneP 6 (l.take 60)).1).length≤60000:=by
  have hb:=oneP_built 6 (l.take 60)
  have hu:=oneP_used 6 (l.take 60)
  rw [List.length_take] at hu
  have h1:=hb.wt
  have h2:=hb.len
  have h3:=hb.deep
  refine ⟨?_,by omega,h3,hb.sound,by omega⟩
  rw [lightB,hb.sound,decide_eq_true (by omega:(oneP 6 (l.take 60)).1.deep≤16),decide_eq_true (by omega:(oneP 6 (l.take 60)).1.weight≤20000)];rfl
end Go.Proofs.YtgcfhkceejcliaaGreatDoor
