/-
  Contracts of the functions that the law reaches: What is written of a sound value comes.
-/
import Derived.Test.YtfoahkbnheijcaaGreatDoorMa17
import Derived.Test.YtfoahkbnheijcaaGreatDoorMa26
namespace Go.Proofs.YtfoahkbnheijcaaGreatDoor
open Go.RowKit
set_option maxHeartbeats 4000000
theorem zcf (n r:Nat):∀a,(be n r).foldl (fun n b=>n*256+b.toNat) a=a*256 ^ r+n % 256 ^ r:=by
 induction r with
 |zero=>intro a;simp [be,Nat.mod_one]
 | succ r ih=>
   intro a
   have h:(UInt8.ofNat (n / 256 ^ r)).toNat=n / 256 ^ r % 256:=by simp
   rw [be,List.foldl_cons,ih,h,Nat.pow_succ,Nat.mod_mul,Nat.add_mul]
   have e:a*256*256 ^ r=a*(256 ^ r*256):=by rw [Nat.mul_assoc,Nat.mul_comm 256]
   rw [e,Nat.mul_comm (n / 256 ^ r % 256)]
   omega
theorem Xw (n k:Nat) (r:List UInt8):rdN k (be n k++r)=some (n % 256 ^ k,r):=by
 have hl:=Zc n k
 rw [rdN,if_pos (by rw [List.length_append];omega),List.take_left' hl,List.drop_left' hl,num,zcf]
 simp
theorem Jl (n k:Nat) (r:List UInt8) (h:n<256 ^ k) (hr:n<=r.length):rdM k (be n k++r)=some (n,r):=by
 rw [rdM,Xw,Nat.mod_eq_of_lt h]
 simp [hr]
theorem Jo (s:ByteArray) (r:List UInt8) (h:s.size<4294967296):rdT (encS s++r)=some (s,r):=by
 have hl:s.data.toList.length=s.size:=by rw [Array.length_toList];rfl
 rw [rdT,encS,List.append_assoc,Jl _ _ _ (by simpa using h) (by rw [List.length_append,hl];omega),Option.bind_some,List.take_left' hl,List.drop_left' hl]
theorem zmp (n:Int) (r:List UInt8) (h0: -9223372036854775808<=n) (h1:n<=9223372036854775807):(rdN 8 (be (n % 18446744073709551616).toNat 8++r)).bind (fun q=>some (wrap64 q.1,q.2))=some (n,r):=by
 have e:wrap64 (((n % 18446744073709551616).toNat % 256 ^ 8:Nat):Int)=n:=by
  have e8:(256:Nat) ^ 8=18446744073709551616:=by decide
  rw [e8,wrap64];omega
 rw [Xw,Option.bind_some,e]
theorem Ka {α:Type} (f:List UInt8->Option (α×List UInt8)) (g:α->List UInt8) (l:List α) (h:∀x ∈ l,∀r,f (g x++r)=some (x,r)):
 ∀n,n<=l.length->∀r,rdL f n ((l.take n).flatMap g++r)=some (l.take n,r):=by
 intro n
 induction n with
 |zero=>intro _ r;simp [rdL]
 | succ n ih=>
   intro hn r
   have hn':n<l.length:=by omega
   rw [rdL,Zv l n hn',List.flatMap_append,List.append_assoc,ih (by omega),Option.bind_some]
   simp [h l[n] (List.getElem_mem hn')]
theorem zny (l:List V):encL l=l.flatMap encV:=by
 induction l with
 |nil=>simp [encL]
 |cons v r ih=>simp [encL,ih]
theorem zq1 (o:List (ByteArray×V)):encO o=o.flatMap encF:=by
 induction o with
 |nil=>simp [encO]
 |cons v r ih=>simp [encO,ih]
inductive V.Num:V->Prop
 |mk (k n:Int) (s:ByteArray) (l:List V) (o:List (ByteArray×V)) (h0: -9223372036854775808<=n) (h1:n<=9223372036854775807) (hl:∀i (h:i<l.length),V.Num l[i]) (ho:∀i (h:i<o.length),V.Num o[i].2):V.Num (.mk k n s l o)
theorem IsVal.num {w:World} {B:Nat} {v:V} {c:VC} (h:IsVal w B v c):v.Num:=by
 induction h with
 |mk c l o cl co lb lo ob oo hbd hl ho hla hoa hlc hlv hoc hov ihl iho=>exact .mk _ _ _ _ _ hbd.n0 hbd.n1 ihl iho
theorem znh {l:List V} {v:V} (h:v ∈ l):(encV v).length<=(encL l).length:=by
 induction l with
 |nil=>cases h
 | cons x r ih=>
   rw [encL,List.length_append]
   rcases List.mem_cons.1 h with rfl|h
   .omega
   .have:=ih h;omega
theorem zpt {o:List (ByteArray×V)} {f:ByteArray×V} (h:f ∈ o):(encS f.1).length+(encV f.2).length<=(encO o).length:=by
 induction o with
 |nil=>cases h
 | cons x r ih=>
   rw [encO,List.length_append]
   rcases List.mem_cons.1 h with rfl|h
   .rw [X6,List.length_append];omega
   .have:=ih h;omega
theorem zeo (v:V):1<=(encV v).length:=by
 cases v with
 |mk k n s l o=>rw [encV,List.length_append,Zc];omega
theorem zpg (l:List V):l.length<=(encL l).length:=by
 induction l with
 |nil=>simp
 |cons x r ih=>rw [encL,List.length_append,List.length_cons];have:=zeo x;omega
theorem zmw (o:List (ByteArray×V)):o.length<=(encO o).length:=by
 induction o with
 |nil=>simp
 |cons x r ih=>rw [encO,List.length_append,List.length_cons,X6,List.length_append];have:=zeo x.2;omega
theorem zpw {l:List V} {v:V} (h:v ∈ l):v.deep<deepL l:=by
 induction l with
 |nil=>cases h
 | cons x r ih=>
   rw [deepL]
   rcases List.mem_cons.1 h with rfl|h
   .omega
   .have:=ih h;omega
theorem zhs {o:List (ByteArray×V)} {f:ByteArray×V} (h:f ∈ o):f.2.deep<deepO o:=by
 induction o with
 |nil=>cases h
 | cons x r ih=>
   rw [deepO,Qm]
   rcases List.mem_cons.1 h with rfl|h
   .omega
   .have:=ih h;omega
theorem Xz {s:ByteArray} (h:s.toList= []):s= .empty:=by
 rw [ByteArray.toList_eq] at h
 have:=congrArg List.toArray h
 cases s with
 |mk a=>simp at this;subst this;rfl
theorem Qg (k:Nat) (hk:k<6) (x r:List UInt8):rdN 1 (be ((k:Int) % 18446744073709551616).toNat 1++x++r)=some (k,x++r):=by
 have e:((k:Int) % 18446744073709551616).toNat=k:=by omega
 rw [e,List.append_assoc,Xw,Nat.mod_eq_of_lt (by omega)]
set_option maxRecDepth 100000 in
theorem zbv (d:Nat):∀v:V,v.deep<d->v.Num->v.sound=true->(encV v).length<=1000000->∀r,rdV d (encV v++r)=some (v,r):=by
 induction d with
 |zero=>intro v h;omega
 | succ d ih=>
   intro v hd hn hs hl r
   cases hn with
   |mk k n s l o h0 h1 hnl hno=>
   rw [V.sound] at hs
   simp only [Bool.and_eq_true] at hs
   obtain ⟨⟨⟨hp,_⟩,hsl⟩,hso⟩:=hs
   rw [J3] at hsl
   rw [zaf] at hso
   rw [V.deep] at hd
   rw [encV] at hl
   rcases zem hp with ⟨rfl,rfl,es,el,eo⟩|⟨rfl,_,es,el,eo⟩|⟨rfl,es,el,eo⟩|⟨rfl,rfl,_,el,eo⟩|⟨rfl,rfl,es,eo⟩|⟨rfl,rfl,es,el⟩
   .have:=Xz es;have:=List.eq_nil_of_length_eq_zero el;have:=List.eq_nil_of_length_eq_zero eo
    subst s l o
    have hk:=Qg 0 (by omega) [] r
    rw [encV,if_neg (by omega),if_neg (by omega),if_neg (by omega),if_neg (by omega),rdV]
    rw [show ((0:Nat):Int)=0 from rfl] at hk
    rw [hk];rfl
   .have:=Xz es;have:=List.eq_nil_of_length_eq_zero el;have:=List.eq_nil_of_length_eq_zero eo
    subst s l o
    have hk:=Qg 1 (by omega) (be (n % 18446744073709551616).toNat 8) r
    rw [encV,if_pos (by omega),rdV]
    rw [show ((1:Nat):Int)=1 from rfl] at hk
    rw [hk,Option.bind_some,if_pos (by simp),Xw,Option.bind_some]
    have e:wrap64 (((n % 18446744073709551616).toNat % 256 ^ 8:Nat):Int)=n:=by
     have e8:(256:Nat) ^ 8=18446744073709551616:=by decide
     rw [e8,wrap64];omega
    rw [e];rfl
   .have:=Xz es;have:=List.eq_nil_of_length_eq_zero el;have:=List.eq_nil_of_length_eq_zero eo
    subst s l o
    have hk:=Qg 2 (by omega) (be (n % 18446744073709551616).toNat 8) r
    rw [encV,if_pos (by omega),rdV]
    rw [show ((2:Nat):Int)=2 from rfl] at hk
    rw [hk,Option.bind_some,if_pos (by simp),Xw,Option.bind_some]
    have e:wrap64 (((n % 18446744073709551616).toNat % 256 ^ 8:Nat):Int)=n:=by
     have e8:(256:Nat) ^ 8=18446744073709551616:=by decide
     rw [e8,wrap64];omega
    rw [e];rfl
   .have:=List.eq_nil_of_length_eq_zero el;have:=List.eq_nil_of_length_eq_zero eo
    subst l o
    have hk:=Qg 3 (by omega) (encS s) r
    rw [if_neg (by omega),if_pos rfl,List.length_append,Zc,Z0] at hl
    rw [encV,if_neg (by omega),if_pos rfl,rdV]
    rw [show ((3:Nat):Int)=3 from rfl] at hk
    rw [hk,Option.bind_some,if_neg (by simp),if_pos rfl,Jo s r (by omega)];rfl
   .have:=Xz es;have:=List.eq_nil_of_length_eq_zero eo
    subst s o
    have hk:=Qg 4 (by omega) (be l.length 4++encL l) r
    rw [if_neg (by omega),if_neg (by omega),if_pos rfl,List.length_append,Zc,List.length_append,Zc] at hl
    have hll:=zpg l
    rw [encV,if_neg (by omega),if_neg (by omega),if_pos rfl,rdV]
    rw [show ((4:Nat):Int)=4 from rfl] at hk
    have hL:=Ka (fun x=>rdV d x) encV l (fun x hx r=>ih x (by have:=zpw hx;omega) (by obtain ⟨i,hi,rfl⟩:=List.mem_iff_getElem.1 hx;exact hnl i hi) (hsl x hx) (by have:=znh hx;omega) r) l.length (Nat.le_refl _) r
    rw [List.take_length] at hL
    rw [hk,Option.bind_some,if_neg (by simp),if_neg (by simp),if_pos rfl,List.append_assoc,Jl _ _ _ (by omega) (by rw [List.length_append];omega),Option.bind_some,zny,hL];rfl
   .have:=Xz es;have:=List.eq_nil_of_length_eq_zero el
    subst s l
    have hk:=Qg 5 (by omega) (be o.length 4++encO o) r
    rw [if_neg (by omega),if_neg (by omega),if_neg (by omega),if_pos rfl,List.length_append,Zc,List.length_append,Zc] at hl
    have hll:=zmw o
    rw [encV,if_neg (by omega),if_neg (by omega),if_neg (by omega),if_pos rfl,rdV]
    rw [show ((5:Nat):Int)=5 from rfl] at hk
    have hL:=Ka (fun x=>(rdT x).bind fun y=>(rdV d y.2).bind fun z=>some ((y.1,z.1),z.2)) encF o (fun x hx r=>by
     have hm:=zpt hx
     rw [Z0] at hm
     rw [X6,List.append_assoc,Jo x.1 _ (by omega),Option.bind_some,ih x.2 (by have:=zhs hx;omega) (by obtain ⟨i,hi,rfl⟩:=List.mem_iff_getElem.1 hx;exact hno i hi) (hso x hx).2 (by omega) r];rfl) o.length (Nat.le_refl _) r
    rw [List.take_length] at hL
    rw [hk,Option.bind_some,if_neg (by simp),if_neg (by simp),if_neg (by simp),if_pos rfl,List.append_assoc,Jl _ _ _ (by omega) (by rw [List.length_append];omega),Option.bind_some,zq1,hL];rfl
theorem CompAt.c7 {w:World} {b o:Nat} {c:CC} (h:CompAt w b o c):w.cell? ⟨b,o+7,none⟩=some (.int .i64 c.v.n):=h.c6.c1
theorem CompAt.c8 {w:World} {b o:Nat} {c:CC} (h:CompAt w b o c):w.cell? ⟨b,o+8,none⟩=some (.string c.v.s):=h.c6.c2
theorem CompAt.c9 {w:World} {b o:Nat} {c:CC} (h:CompAt w b o c):w.cell? ⟨b,o+9,none⟩=some (.slice c.v.la c.v.ll c.v.lc):=h.c6.c3
theorem CompAt.c10 {w:World} {b o:Nat} {c:CC} (h:CompAt w b o c):w.cell? ⟨b,o+10,none⟩=some (.slice c.v.oa c.v.ol c.v.oc):=h.c6.c4
theorem Boxed1.next {w W W1 W2:World} {B:Nat} {c:VC} (h:Boxed1 w W c) (hb:Below B W1 W2) (hW:Below W.heap.size W W1) (hB:B=W1.heap.size):Boxed1 w W2 c:=by
 subst hB;exact (h.step hW).step hb
def lightB (v:V):Bool:=v.sound && decide (v.deep<=16) && decide (v.weight<=20000)
set_option maxRecDepth 100000 in
theorem zcw (v:V) (w:World) (hT:Tabs w) (c:VC) (hv:IsVal w w.heap.size v c) (hw:v.weight<=4611686018427387904):
 Calls Tryz.prog 141 #[.agg #[.int .u8 c.k, .int .i64 c.n, .string c.s, .slice c.la c.ll c.lc, .slice c.oa c.ol c.oc]] w fun e w'=>e= .returned (.bool (lightB v))/\Below w.heap.size w w':=by
 obtain ⟨sd,hsd⟩:∃sd,v.sound=sd:=⟨_,rfl⟩
 obtain ⟨dp,hdp⟩:∃dp,v.deep=dp:=⟨_,rfl⟩
 obtain ⟨wt,hwt⟩:∃wt,v.weight=wt:=⟨_,rfl⟩
 have HSD:Hid (Behind w 70 #[.agg #[.int .u8 c.k, .int .i64 c.n, .string c.s, .slice c.la c.ll c.lc, .slice c.oa c.ol c.oc]] (.bool sd)):=fun W hW=>by rw [<-hsd];exact zdx v W c (hv.later_ hW) (hT.below hW)
 have HDP:Hid (Behind w 71 #[.agg #[.int .u8 c.k, .int .i64 c.n, .string c.s, .slice c.la c.ll c.lc, .slice c.oa c.ol c.oc]] (.int .i64 dp)):=fun W hW=>by rw [<-hdp];exact zez v hw W c (hv.later_ hW)
 have HWT:Hid (Behind w 72 #[.agg #[.int .u8 c.k, .int .i64 c.n, .string c.s, .slice c.la c.ll c.lc, .slice c.oa c.ol c.oc]] (.int .i64 wt)):=fun W hW=>by rw [<-hwt];exact zcg v hw W c (hv.later_ hW)
 have k4:wt<=4611686018427387904:=by omega
 have k5:dp<=4611686018427387904:=by have:=v.deep_lt;omega
 have hR2:lightB v=(sd && decide (dp<=16) && decide (wt<=20000)):=by rw [lightB,hsd,hdp,hwt]
 have HR:=qh hR2
 have bx:=Jn w c 41
 clear hsd hdp hwt hR2 hv hw hT
 go_enter Tryz.func141,Tryz.ntmps141
 cases sd with
 |false=>go_wp2_with (go_at_call 70;(with_reducible refine (Behind.at_ (HSD.out) ?_).mono ?_);(focus (have:=bx.below;have:=bx.size;go_grown));rintro e w1 ⟨rfl,hb1⟩;replace bx:=bx.next hb1 (by go_grown) rfl;have zs:w.heap.size<w1.heap.size:=bx.size;have y0:=bx.a.c0;have y1:=bx.a.c1;have y2:=bx.a.c2;have y3:=bx.a.c3;have y4:=bx.a.c4);go_ret;exact ⟨Zb (by rw [HR.out];first|(simp [*];done)|(simp [*];try omega)),by have:=bx.below;have:=bx.size;go_grown⟩
 |true=>
 go_wp2_with (go_at_call 70;(with_reducible refine (Behind.at_ (HSD.out) ?_).mono ?_);(focus (have:=bx.below;have:=bx.size;go_grown));rintro e w1 ⟨rfl,hb1⟩;replace bx:=bx.next hb1 (by go_grown) rfl;have zs:w.heap.size<w1.heap.size:=bx.size;have y0:=bx.a.c0;have y1:=bx.a.c1;have y2:=bx.a.c2;have y3:=bx.a.c3;have y4:=bx.a.c4)
 by_cases hd:dp<=16
 case neg=>
  have hdB:decide ((dp:Int)<=16)=false:=by simp;omega
  go_wp2_with (go_at_call 71;(with_reducible refine (Behind.at_ (HDP.out) ?_).mono ?_);(focus (have:=bx.below;have:=bx.size;go_grown));rintro e w1 ⟨rfl,hb1⟩;replace bx:=bx.next hb1 (by go_grown) rfl;have zs:w.heap.size<w1.heap.size:=bx.size;have y0:=bx.a.c0;have y1:=bx.a.c1;have y2:=bx.a.c2;have y3:=bx.a.c3;have y4:=bx.a.c4);go_ret;exact ⟨Zb (by rw [HR.out];first|(simp [*];done)|(simp [*];try omega)),by have:=bx.below;have:=bx.size;go_grown⟩
 have hdB:decide ((dp:Int)<=16)=true:=by simp;omega
 go_wp2_with (first|(go_at_call 71;(with_reducible refine (Behind.at_ (HDP.out) ?_).mono ?_);(focus (have:=bx.below;have:=bx.size;go_grown));rintro e w1 ⟨rfl,hb1⟩;replace bx:=bx.next hb1 (by go_grown) rfl;have zs:w.heap.size<w1.heap.size:=bx.size;have y0:=bx.a.c0;have y1:=bx.a.c1;have y2:=bx.a.c2;have y3:=bx.a.c3;have y4:=bx.a.c4)|(go_at_call 72;(with_reducible refine (Behind.at_ (HWT.out) ?_).mono ?_);(focus (have:=bx.below;have:=bx.size;go_grown));rintro e w1 ⟨rfl,hb1⟩;replace bx:=bx.next hb1 (by go_grown) rfl;have zs:w.heap.size<w1.heap.size:=bx.size;have y0:=bx.a.c0;have y1:=bx.a.c1;have y2:=bx.a.c2;have y3:=bx.a.c3;have y4:=bx.a.c4))
 go_ret;exact ⟨Zb (by rw [HR.out];first|(simp [*];done)|(simp [*];try omega)),by have:=bx.below;have:=bx.size;go_grown⟩
set_option maxRecDepth 100000 in
theorem zni (l:List Cm) (w:World) (a:Option Addr) (n c:Nat) (h:IsComps w w.heap.size l a n c) (p:Cm->Bool) (g:Nat) (eg:∀args w,(callFunc g args).run Tryz.prog w= .ok (.enter g args) w)
 (hg:∀(x:Cm) (d:CC) (W:World),x ∈ l->Below w.heap.size w W->IsComp W W.heap.size x d->Calls Tryz.prog g #[.agg #[.int .u8 d.k, .slice d.pa d.pl d.pc, .string d.key, .int .i64 d.i, .int .i64 d.j, .int .i64 d.n, .int .u8 d.v.k, .int .i64 d.v.n, .string d.v.s, .slice d.v.la d.v.ll d.v.lc, .slice d.v.oa d.v.ol d.v.oc, .string d.s]] W fun e w'=>e= .returned (.bool (p x))/\Below W.heap.size W w'):
 Calls Tryz.prog 176 #[.slice a n c, .func (.func g) #[] #[]] w fun e w'=>(∃r:Int,e= .returned (.int .i64 r)/\Hid (decide (0<=r)=l.any p)/\ -1<=r/\r<=9223372036854775807)/\Below w.heap.size w w':=by
 have k1:=h.max;have k2:=h.few
 have HLn:=qh h.len
 have HG:=qh hg
 clear hg
 go_enter Tryz.func176,Tryz.ntmps176
 go_wp2_with fail
 go_loopw [5,8] (fun _ i wr=>∃k:Nat,k<=n/\i= .int .i64 k/\Hid (∀j,j<k->∀hj:j<l.length,p l[j] =false)/\Below w.heap.size w wr) (fun _ i _=>n - (intOf i).toNat)
 case atStart=>exact ⟨0,Nat.zero_le _,rfl,fun j hj=>by omega,Below.refl _ _⟩
 case round=>
  obtain ⟨k,hk,rfl,HJ,hB⟩:=hrel
  by_cases hlt:k<n
  .obtain ⟨b,o,d,kl,rfl,hb,x1,xb⟩:=h.get hlt
   have x1:=x1.keep hB hb
   have r0:=x1.c0;have r1:=x1.c1;have r2:=x1.c2;have r3:=x1.c3;have r4:=x1.c4;have r5:=x1.c5;have r6:=x1.c6.c0;have r7:=x1.c7;have r8:=x1.c8;have r9:=x1.c9;have r10:=x1.c10;have r11:=x1.c11
   have hc:=HG.out l[k] d wr (List.getElem_mem kl) hB (xb.later_ hB)
   clear x1 h
   generalize hx:p l[k] =bx at hc
   have HX:=qh hx
   have HC:=qh hc
   clear hx hc
   cases bx with
   | false=>
     go_wp2_with (go_at_fn g;refine HC.out.mono ?_;rintro e w' ⟨rfl,hb'⟩)
     go_roundw
     case rel=>exact ⟨k+1,by omega,by go_num,zcx HJ kl HX.out,hB.on hb' hB.size⟩
     case measure=>simp [intOf];omega
   | true=>
     go_wp2_with (go_at_fn g;refine HC.out.mono ?_;rintro e w' ⟨rfl,hb'⟩)
     go_ret
     exact ⟨⟨k,rfl,by show _=_;rw [zdt kl HX.out];simp,by omega,by omega⟩,hB.on hb' hB.size⟩
  .go_wp2_with fail
   go_ret
   exact ⟨⟨-1,rfl,by show _=_;rw [zep (n:=n) HLn.out (fun j hj=>HJ.out j (by omega))];rfl,by omega,by omega⟩,hB⟩
set_option maxRecDepth 100000 in
theorem zkb (l:List Cm) (w:World) (a:Option Addr) (n c:Nat) (h:IsComps w w.heap.size l a n c) (p:Cm->Bool) (g:Nat) (eg:∀args w,(callFunc g args).run Tryz.prog w= .ok (.enter g args) w)
 (hg:∀(x:Cm) (d:CC) (W:World),x ∈ l->Below w.heap.size w W->IsComp W W.heap.size x d->Calls Tryz.prog g #[.agg #[.int .u8 d.k, .slice d.pa d.pl d.pc, .string d.key, .int .i64 d.i, .int .i64 d.j, .int .i64 d.n, .int .u8 d.v.k, .int .i64 d.v.n, .string d.v.s, .slice d.v.la d.v.ll d.v.lc, .slice d.v.oa d.v.ol d.v.oc, .string d.s]] W fun e w'=>e= .returned (.bool (p x))/\Below W.heap.size W w'):
 Calls Tryz.prog 142 #[.slice a n c, .func (.func g) #[] #[]] w fun e w'=>e= .returned (.bool (l.any p))/\Below w.heap.size w w':=by
 have k1:=h.max;have k2:=h.few
 have hc:=zni l w a n c h p g eg hg
 have HC:=qh hc
 clear hg hc h eg
 go_enter Tryz.func142,Tryz.ntmps142
 go_wp2_with (go_at_call 176;refine HC.out.mono ?_;rintro e w' ⟨⟨r,rfl,hr,h1,h2⟩,hb⟩)
 go_ret
 exact ⟨Zb (by rw [<-hr.out]),hb⟩
set_option maxRecDepth 100000 in
theorem zh7 (x:Cm) (w:World) (hT:Tabs w) (c:CC) (hx:IsComp w w.heap.size x c) (hw:x.v.weight<=4611686018427387904):
 Calls Tryz.prog 143 #[.agg #[.int .u8 c.k, .slice c.pa c.pl c.pc, .string c.key, .int .i64 c.i, .int .i64 c.j, .int .i64 c.n, .int .u8 c.v.k, .int .i64 c.v.n, .string c.v.s, .slice c.v.la c.v.ll c.v.lc, .slice c.v.oa c.v.ol c.v.oc, .string c.s]] w fun e w'=>e= .returned (.bool (!cmSound x))/\Below w.heap.size w w':=by
 have HC:Hid (∀W,Below w.heap.size w W->Calls Tryz.prog 25 #[.agg #[.int .u8 c.k, .slice c.pa c.pl c.pc, .string c.key, .int .i64 c.i, .int .i64 c.j, .int .i64 c.n, .int .u8 c.v.k, .int .i64 c.v.n, .string c.v.s, .slice c.v.la c.v.ll c.v.lc, .slice c.v.oa c.v.ol c.v.oc, .string c.s]] W fun e w'=>e= .returned (.bool (cmSound x))/\Below W.heap.size W w'):=fun W hW=>zk8 x W (hT.below hW) c (hx.later_ hW) hw
 clear hx hT
 go_enter Tryz.func143,Tryz.ntmps143
 go_wp2_with (go_at_call 25;refine (HC.out _ ((Below.refl _ _).alloc (Nat.le_refl _) _)).mono ?_;rintro e w' ⟨rfl,hb⟩)
 go_ret
 exact ⟨rfl,hb.one⟩
theorem zql (b:UInt8):(low b).toNat<128:=by
 unfold low;rw [UInt8.toNat_ofNat'];omega
theorem zk4 {l:List UInt8} (h:∀b ∈ l,b.toNat<128):Lib.validD l=true:=by
 have:=Lib.validD_ascii l.length l (fun b hb=>h b (List.mem_of_mem_take hb))
 rw [this,List.drop_length];rfl
theorem zd8 (s:ByteArray):Lib.validD (plainS s).data.toList=true:=by
 refine zk4 fun b hb=> ?_
 have:b ∈ plainL s.data.toList:=by simpa [plainS] using hb
 obtain ⟨c,_,rfl⟩:=List.mem_map.1 this
 exact zql c
theorem znk (l:List Tk) (u:Nat):Lib.validD (keyP l u).data.toList=true:=by
 unfold keyP
 split
 .exact zd8 _
 .rfl
theorem zlm (o:List (ByteArray×V)) (key:ByteArray):∀i a,o[i]? =some a->i<fieldK o key->Op.bytesLess a.1.toList key.toList=true:=by
 unfold fieldK
 induction o with
 |nil=>intro i a h;simp at h
 | cons f o ih=>
   intro i a h hi
   by_cases hf:Op.bytesLess f.1.toList key.toList=true
   .rw [List.takeWhile_cons,if_pos hf,List.length_cons] at hi
    cases i with
    |zero=>simp at h;subst h;exact hf
    |succ i=>exact ih i a (by simpa using h) (by omega)
   .rw [List.takeWhile_cons,if_neg hf] at hi
    simp at hi
theorem zga (o:List (ByteArray×V)) (key:ByteArray):∀a,o[fieldK o key]? =some a->Op.bytesLess a.1.toList key.toList=false:=by
 unfold fieldK
 induction o with
 |nil=>intro a h;simp at h
 | cons f o ih=>
   intro a h
   by_cases hf:Op.bytesLess f.1.toList key.toList=true
   .rw [List.takeWhile_cons,if_pos hf,List.length_cons] at h
    exact ih a (by simpa using h)
   .rw [List.takeWhile_cons,if_neg hf] at h
    simp at h;subst h
    cases hq:Op.bytesLess f.1.toList key.toList with
    |true=>exact absurd hq hf
    |false=>rfl
theorem zgj {o:List (ByteArray×V)} :rising o=true↔∀i a b,o[i]? =some a->o[i+1]? =some b->Op.bytesLess a.1.toList b.1.toList=true:=by
 rw [Kk]
 constructor
 .intro h i a b ha hb
  have hb1:=(List.getElem?_eq_some_iff.1 hb).1
  have:=h i hb1
  rw [List.getElem?_eq_getElem (by omega)] at ha
  rw [List.getElem?_eq_getElem hb1] at hb
  injection ha with ha;injection hb with hb
  rw [<-ha, <-hb];exact this
 .intro h i hi
  exact h i _ _ (List.getElem?_eq_getElem (by omega)) (List.getElem?_eq_getElem hi)
theorem zgf {o:List (ByteArray×V)} (key:ByteArray) (x:V) (h:rising o=true):rising (withF o key x)=true:=by
 rw [zgj] at h ⊢
 obtain ⟨k,hk⟩:∃k,fieldK o key=k:=⟨_,rfl⟩
 have hkl:=Xs o key
 have hlt:=zlm o key
 have hst:=zga o key
 obtain ⟨k',hk'⟩:∃k',(if fieldIs o key=true then fieldK o key+1 else fieldK o key)=k':=⟨_,rfl⟩
 have hnext:∀b,o[k']? =some b->Op.bytesLess key.toList b.1.toList=true:=by
  intro b hb
  by_cases e:fieldIs o key=true
  .rw [if_pos e,hk] at hk'
   unfold fieldIs at e
   rw [hk] at e
   cases hf:o[k]? with
   |none=>rw [hf] at e;cases e
   | some f=>
     rw [hf] at e
     have e:f.1.toList=key.toList:=by simpa using e
     rw [<-e]
     rw [<-hk'] at hb
     exact h k f b hf hb
  .rw [if_neg e,hk] at hk'
   unfold fieldIs at e
   rw [<-hk'] at hb
   have h1:=hst b (by rw [hk];exact hb)
   rw [hk,hb] at e
   rcases za1 b.1.toList key.toList with h2|h2|h2
   .rw [h1] at h2;cases h2
   .exact absurd (by simpa using h2) e
   .exact h2
 rw [hk] at hkl hlt
 have hw:withF o key x=o.take k++(key,x)::o.drop k':=by rw [withF,hk',hk]
 rw [hw]
 have l1:(o.take k).length=k:=by rw [List.length_take,Nat.min_eq_left hkl]
 have g1:∀i,i<k->(o.take k++(key,x)::o.drop k')[i]? =o[i]? :=fun i hi=>by
  rw [List.getElem?_append_left (by omega),List.getElem?_take_of_lt hi]
 have g2:(o.take k++(key,x)::o.drop k')[k]? =some (key,x):=by
  rw [List.getElem?_append_right (by omega),l1,Nat.sub_self];rfl
 have g3:∀m,(o.take k++(key,x)::o.drop k')[k+1+m]? =o[k'+m]? :=fun m=>by
  rw [List.getElem?_append_right (by omega),l1,show k+1+m - k=m+1 by omega,List.getElem?_cons_succ,List.getElem?_drop]
 intro i a b ha hb
 by_cases e1:i+1<k
 .rw [g1 _ (by omega)] at ha
  rw [g1 _ e1] at hb
  exact h i a b ha hb
 .by_cases e2:i+1=k
  .rw [g1 _ (by omega)] at ha
   rw [e2,g2] at hb
   injection hb with hb;subst hb
   exact hlt i a ha (by omega)
  .by_cases e3:i=k
   .subst e3
    rw [g2] at ha
    injection ha with ha;subst ha
    have:=g3 0
    rw [Nat.add_zero,Nat.add_zero] at this
    rw [this] at hb
    exact hnext b hb
   .obtain ⟨m,rfl⟩:∃m,i=k+1+m:=⟨i - k - 1,by omega⟩
    rw [g3] at ha
    rw [show k+1+m+1=k+1+(m+1) by omega,g3] at hb
    exact h (k'+m) a b ha hb
theorem zc9 {o:List (ByteArray×V)} {key:ByteArray} {x:V} {f:ByteArray×V} (h:f ∈ withF o key x):f ∈ o∨f=(key,x):=by
 unfold withF at h
 rcases List.mem_append.1 h with h|h
 .exact .inl (List.mem_of_mem_take h)
 .rcases List.mem_cons.1 h with h|h
  .exact .inr h
  .exact .inl (List.mem_of_mem_drop h)
theorem za6 (g:ByteArray×V->Nat) (o:List (ByteArray×V)) (key:ByteArray) (x:V):((withF o key x).map g).sum<=(o.map g).sum+g (key,x):=by
 have hd:∀n,((o.drop (n+1)).map g).sum<=((o.drop n).map g).sum:=fun n=>by
  rw [<-List.drop_drop,List.drop_one]
  cases o.drop n with
  |nil=>simp
  |cons a r=>simp
 have ht:((o.take (fieldK o key)).map g).sum+((o.drop (fieldK o key)).map g).sum=(o.map g).sum:=by
  rw [<-List.sum_append, <-List.map_append,List.take_append_drop]
 unfold withF
 rw [List.map_append,List.map_cons,List.sum_append,List.sum_cons]
 split
 .have:=hd (fieldK o key);omega
 .omega
theorem zcl (o:List (ByteArray×V)):weightO o=(o.map fun f=>f.1.size+f.2.weight).sum:=by
 induction o with
 |nil=>rfl
 |cons f r ih=>rw [weightO,Yb,ih,List.map_cons,List.sum_cons]
theorem Km (o:List (ByteArray×V)):(encO o).length=(o.map fun f=>(encF f).length).sum:=by
 induction o with
 |nil=>rfl
 |cons f r ih=>rw [encO,List.length_append,ih,List.map_cons,List.sum_cons]
theorem zms {l:List V} {n:Nat} (h:∀v ∈ l,v.deep+1<=n):deepL l<=n:=by
 induction l with
 |nil=>simp [deepL]
 | cons v r ih=>
   rw [deepL]
   have h1:=h v (by simp)
   have h2:=ih fun x hx=>h x (by simp [hx])
   omega
theorem zir {o:List (ByteArray×V)} {n:Nat} (h:∀f ∈ o,f.2.deep+1<=n):deepO o<=n:=by
 induction o with
 |nil=>simp [deepO]
 | cons v r ih=>
   rw [deepO,Qm]
   have h1:=h v (by simp)
   have h2:=ih fun x hx=>h x (by simp [hx])
   omega
structure Built (d:Nat) (v:V) (u:Nat):Prop where
 sound:v.sound=true
 deep:v.deep<=d
 wt:v.weight+40<=81*(3*u+1)
 len:(encV v).length+44<=90*(3*u+1)
theorem zbg (d:Nat):Built d V.none 0:=⟨by simp [V.none,V.sound,plainB,rising,soundL,soundO],by simp [V.none,V.deep,deepL,deepO],by simp [V.none,V.weight,weightL,weightO],by simp [V.none,encV,Zc]⟩
theorem Built.more {d u u':Nat} {v:V} (h:Built d v u) (hu:u<=u'):Built d v u':=⟨h.sound,h.deep,by have:=h.wt;omega,by have:=h.len;omega⟩
theorem zco (d:Nat) (t:Tk):Built d (leafP t) 1:=by
 have hp:=Ye t.s
 have hv:=zd8 t.s
 unfold leafP
 split
 .have:t.n % 2=0∨t.n % 2=1:=by omega
  refine ⟨?_,by simp [V.deep,deepL,deepO],by simp [V.weight,weightL,weightO],by simp [encV,Zc]⟩
  rcases this with h|h<;>simp [h,V.sound,plainB,rising,soundL,soundO]
 .split
  .exact ⟨by simp [V.sound,plainB,rising,soundL,soundO],by simp [V.deep,deepL,deepO],by simp [V.weight,weightL,weightO],by simp [encV,Zc]⟩
  .split
   .exact ⟨by simp [V.sound,plainB,rising,soundL,soundO,hv],by simp [V.deep,deepL,deepO],by simp [V.weight,weightL,weightO];omega,by simp [encV,Zc,Z0];omega⟩
   .split
    .exact ⟨by simp [V.sound,plainB,rising,soundL,soundO],by simp [V.deep,deepL,deepO],by simp [V.weight,weightL,weightO],by simp [encV,encL,Zc]⟩
    .split
     .exact ⟨by simp [V.sound,plainB,rising,soundL,soundO],by simp [V.deep,deepL,deepO],by simp [V.weight,weightL,weightO],by simp [encV,encO,Zc]⟩
     .exact (zbg d).more (by omega)
theorem zqj {d:Nat} {f:List Tk->V×Nat} (hf:∀l,Built d (f l).1 (f l).2) (l:List Tk):∀j,(∀v ∈ (bL f l j).1,v.sound=true/\v.deep<=d)/\1<=(bL f l j).2/\weightL (bL f l j).1+40*j<=81*(3*((bL f l j).2 - 1)+j)/\(encL (bL f l j).1).length+44*j<=90*(3*((bL f l j).2 - 1)+j):=by
 intro j
 induction j with
 |zero=>exact ⟨by simp [bL],by simp [bL],by simp [bL,weightL],by simp [bL,encL]⟩
 | succ j ih=>
   obtain ⟨h1,h2,h3,h4⟩:=ih
   rw [bL]
   have hb:=hf (l.drop (bL f l j).2)
   have hw:=hb.wt
   have hn:=hb.len
   dsimp only
   rw [Y2,Jp,List.length_append]
   simp only [weightL,encL,List.append_nil]
   refine ⟨fun v hv=> ?_,by omega,by omega,by omega⟩
   rcases List.mem_append.1 hv with hv|hv
   .exact h1 v hv
   .rw [List.mem_singleton] at hv;subst hv;exact ⟨hb.sound,hb.deep⟩
theorem zj1 {d:Nat} {f:List Tk->V×Nat} (hf:∀l,Built d (f l).1 (f l).2) (l:List Tk):∀j,(∀g ∈ (bO f l j).1,Lib.validD g.1.data.toList=true/\g.2.sound=true/\g.2.deep<=d)/\rising (bO f l j).1=true/\1<=(bO f l j).2/\weightO (bO f l j).1<=81*(3*((bO f l j).2 - 1)+j)/\(encO (bO f l j).1).length<=90*(3*((bO f l j).2 - 1)+j):=by
 intro j
 induction j with
 |zero=>exact ⟨by simp [bO],by simp [bO,rising],by simp [bO],by simp [bO,weightO],by simp [bO,encO]⟩
 | succ j ih=>
   obtain ⟨h1,h5,h2,h3,h4⟩:=ih
   rw [bO]
   have hb:=hf (l.drop (bO f l j).2)
   have hw:=hb.wt
   have hn:=hb.len
   have hk:=zaz l (bO f l j).2
   have s1:=za6 (fun f=>f.1.size+f.2.weight) (bO f l j).1 (keyP l (bO f l j).2) (f (l.drop (bO f l j).2)).1
   have s2:=za6 (fun f=>(encF f).length) (bO f l j).1 (keyP l (bO f l j).2) (f (l.drop (bO f l j).2)).1
   rw [<-zcl, <-zcl] at s1
   rw [<-Km, <-Km] at s2
   rw [X6,List.length_append,Z0] at s2
   dsimp only at*
   refine ⟨fun v hv=> ?_,zgf _ _ h5,by omega,by omega,by omega⟩
   rcases zc9 hv with hv|hv
   .exact h1 v hv
   .subst hv;exact ⟨znk _ _,hb.sound,hb.deep⟩
theorem zkj (d:Nat):∀l,Built d (oneP d l).1 (oneP d l).2:=by
 induction d with
 | zero=>
   intro l
   cases l with
   |nil=>exact zbg 0
   |cons t r=>exact zco 0 t
 | succ d ih=>
   intro l
   cases l with
   |nil=>exact zbg _
   | cons t r=>
     have hK:(t.m % 4).toNat<=3:=by omega
     obtain ⟨K,hk⟩:∃K,(t.m % 4).toNat=K:=⟨_,rfl⟩
     rw [oneP,hk]
     rw [hk] at hK
     split
     .obtain ⟨h1,h2,h3,h4⟩:=zqj ih (t::r) K
      obtain ⟨p,hp⟩:∃p,bL (oneP d) (t::r) K=p:=⟨_,rfl⟩
      rw [hp] at h1 h2 h3 h4 ⊢
      refine ⟨?_, ?_, ?_, ?_⟩
      .simp only [V.sound,Bool.and_eq_true]
       exact ⟨⟨⟨by simp [plainB],rfl⟩,(J3 _).2 fun v hv=>(h1 v hv).1⟩,rfl⟩
      .simp only [V.deep,deepO]
       have:=zms (n:=d+1) fun v hv=>by have:=(h1 v hv).2;omega
       omega
      .simp only [V.weight,weightO,show ByteArray.empty.size=0 from rfl];omega
      .rw [encV,if_neg (by omega),if_neg (by omega),if_pos rfl,List.length_append,List.length_append,Zc,Zc];omega
     .split
      .obtain ⟨h1,h5,h2,h3,h4⟩:=zj1 ih (t::r) K
       obtain ⟨p,hp⟩:∃p,bO (oneP d) (t::r) K=p:=⟨_,rfl⟩
       rw [hp] at h1 h5 h2 h3 h4 ⊢
       refine ⟨?_, ?_, ?_, ?_⟩
       .simp only [V.sound,Bool.and_eq_true]
        exact ⟨⟨⟨by simp [plainB],h5⟩,rfl⟩,(zaf _).2 fun v hv=>⟨(h1 v hv).1,(h1 v hv).2.1⟩⟩
       .simp only [V.deep,deepL]
        have:=zir (n:=d+1) fun v hv=>by have:=(h1 v hv).2.2;omega
        omega
       .simp only [V.weight,weightL,show ByteArray.empty.size=0 from rfl];omega
       .rw [encV,if_neg (by omega),if_neg (by omega),if_neg (by omega),if_pos rfl,List.length_append,List.length_append,Zc,Zc];omega
      .exact zco _ t
theorem Qt (l:List Tk):lightB (oneP 6 (l.take 60)).1=true/\(oneP 6 (l.take 60)).1.weight<=20000/\(oneP 6 (l.take 60)).1.deep<=6/\(oneP 6 (l.take 60)).1.sound=true/\(encV (oneP 6 (l.take 60)).1).length<=60000:=by
 have hb:=zkj 6 (l.take 60)
 have hu:=X2 6 (l.take 60)
 rw [List.length_take] at hu
 have h1:=hb.wt
 have h2:=hb.len
 have h3:=hb.deep
 refine ⟨?_,by omega,h3,hb.sound,by omega⟩
 rw [lightB,hb.sound,decide_eq_true (by omega:(oneP 6 (l.take 60)).1.deep<=16),decide_eq_true (by omega:(oneP 6 (l.take 60)).1.weight<=20000)];rfl
end Go.Proofs.YtfoahkbnheijcaaGreatDoor
