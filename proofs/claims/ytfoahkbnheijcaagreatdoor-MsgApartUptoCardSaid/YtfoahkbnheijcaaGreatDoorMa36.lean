/-
  Contracts of the functions that the law reaches: Entries as they are given: what stands.
-/
import Derived.Test.YtfoahkbnheijcaaGreatDoorMa35
namespace Go.Proofs.YtfoahkbnheijcaaGreatDoor
open Go.RowKit
set_option maxHeartbeats 4000000
structure Ba where
 k:Int
 path:List St
 key:ByteArray
 i:Int
 j:Int
 n:Int
 s:ByteArray
 v:List Tk
structure BA where
 k:Int
 pa:Option Addr
 pl:Nat
 pc:Nat
 key:ByteArray
 i:Int
 j:Int
 n:Int
 s:ByteArray
 va:Option Addr
 vl:Nat
 vc:Nat
structure BA.Bnd (c:BA):Prop where
 k0:0<=c.k
 k1:c.k<256
 i0: -9223372036854775808<=c.i
 i1:c.i<=9223372036854775807
 j0: -9223372036854775808<=c.j
 j1:c.j<=9223372036854775807
 n0: -9223372036854775808<=c.n
 n1:c.n<=9223372036854775807
 key1:c.key.size<=140737488355328
 s1:c.s.size<=140737488355328
structure BareAt (w:World) (b o:Nat) (c:BA):Prop where
 c0:w.cell? ⟨b,o,none⟩=some (.int .u8 c.k)
 c1:w.cell? ⟨b,o+1,none⟩=some (.slice c.pa c.pl c.pc)
 c2:w.cell? ⟨b,o+2,none⟩=some (.string c.key)
 c3:w.cell? ⟨b,o+3,none⟩=some (.int .i64 c.i)
 c4:w.cell? ⟨b,o+4,none⟩=some (.int .i64 c.j)
 c5:w.cell? ⟨b,o+5,none⟩=some (.int .i64 c.n)
 c6:w.cell? ⟨b,o+6,none⟩=some (.string c.s)
 c7:w.cell? ⟨b,o+7,none⟩=some (.slice c.va c.vl c.vc)
theorem BareAt.keep {w w':World} {B b o:Nat} {c:BA} (h:BareAt w b o c) (hb:Below B w w') (hB:b<B):BareAt w' b o c:=
 ⟨Zd hb h.c0 hB,Zd hb h.c1 hB,Zd hb h.c2 hB,Zd hb h.c3 hB,Zd hb h.c4 hB,Zd hb h.c5 hB,Zd hb h.c6 hB,Zd hb h.c7 hB⟩
inductive IsBare (w:World) (B:Nat):Ba->BA->Prop
 |mk (c:BA) (p:List St) (v:List Tk) (hb:c.Bnd) (hp:IsSteps w B p c.pa c.pl c.pc) (hv:IsToks w B v c.va c.vl c.vc):IsBare w B ⟨c.k,p,c.key,c.i,c.j,c.n,c.s,v⟩ c
theorem IsBare.keep {w w':World} {B:Nat} {x:Ba} {c:BA} (h:IsBare w B x c) (hb:Below B w w'):IsBare w' B x c:=by
 cases h with
 |mk c p v hbd hp hv=>exact .mk c p v hbd (hp.keep hb) (hv.keep hb)
structure IsBares (w:World) (B:Nat) (l:List Ba) (a:Option Addr) (n c:Nat):Prop where
 len:n=l.length
 cap:n<=c
 max:c<=9223372036854775807
 at_:∃b o,∃f:Nat->BA,(0<n->a=some ⟨b,o,none⟩/\b<B)/\∀i (h:i<l.length),BareAt w b (o+i*8) (f i)/\IsBare w B l[i] (f i)
theorem IsBares.keep {w w':World} {B:Nat} {l:List Ba} {a:Option Addr} {n c:Nat} (h:IsBares w B l a n c) (hb:Below B w w'):IsBares w' B l a n c:=by
 obtain ⟨h1,h2,h3,b,o,f,h5,h6⟩:=h
 exact ⟨h1,h2,h3,b,o,f,h5,fun i hi=>⟨(h6 i hi).1.keep hb (h5 (by omega)).2,(h6 i hi).2.keep hb⟩⟩
theorem IsBares.get {w:World} {B:Nat} {l:List Ba} {a:Option Addr} {n c k:Nat} (h:IsBares w B l a n c) (hk:k<n):
 ∃b o,∃f:BA,∃hp:k<l.length,a=some ⟨b,o,none⟩/\b<B/\BareAt w b (o+k*8) f/\IsBare w B l[k] f:=by
 obtain ⟨h1,h2,h3,b,o,f,h5,h6⟩:=h
 exact ⟨b,o,f k,by omega,(h5 (by omega)).1,(h5 (by omega)).2,(h6 k (by omega)).1,(h6 k (by omega)).2⟩
structure Rc where
 k:Int
 src:Int
 seq:Int
 v:List Tk
 op:List Ba
 acts:List Ac
 snd:Bool
structure RC where
 k:Int
 src:Int
 seq:Int
 va:Option Addr
 vl:Nat
 vc:Nat
 oa:Option Addr
 ol:Nat
 oc:Nat
 aa:Option Addr
 al:Nat
 ac:Nat
 snd:Bool
structure RC.Bnd (c:RC):Prop where
 k0:0<=c.k
 k1:c.k<256
 src0:0<=c.src
 src1:c.src<4294967296
 seq0:0<=c.seq
 seq1:c.seq<4294967296
def rcells (c:RC):List Value:= [.int .u8 c.k, .int .u32 c.src, .int .u32 c.seq, .slice c.va c.vl c.vc, .slice c.oa c.ol c.oc, .slice c.aa c.al c.ac, .bool c.snd]
inductive IsRec (w:World) (B:Nat):Rc->RC->Prop
 |mk (c:RC) (v:List Tk) (o:List Ba) (a:List Ac) (hb:c.Bnd) (hv:IsToks w B v c.va c.vl c.vc) (ho:IsBares w B o c.oa c.ol c.oc) (ha:IsActs w B a c.aa c.al c.ac):IsRec w B ⟨c.k,c.src,c.seq,v,o,a,c.snd⟩ c
noncomputable def compP (b:Ba):Cm:=⟨b.k,b.path,b.key,b.i,b.j,b.n,(rawP 20 (b.v.take 60)).1,b.s⟩
noncomputable def entryP (r:Rc):En:=
 if r.snd=true then
  (if r.k % 3=0 then ⟨1,r.src,r.seq,(oneP 6 (r.v.take 60)).1, []⟩
  else if r.k % 3=1 then ⟨2,r.src,r.seq,V.none,aimP (oneP 6 (r.v.take 60)).1 (r.acts.take 20)⟩
  else ⟨3,r.src,r.seq,V.none, []⟩)
 else ⟨r.k,r.src,r.seq,(rawP 20 (r.v.take 60)).1,(r.op.take 20).map compP⟩
structure RawW (v:V) (u:Nat):Prop where
 str:v.str.size<=140737488355328
 wt:u≠0->v.weight+140737488355328<=281474976710657*u
 low:u=0->v=V.none
theorem zgh {f:List Tk->V×Nat} (hf:∀l,(∀t ∈ l,t.s.size<=140737488355328)->RawW (f l).1 (f l).2) (l:List Tk) (hl:∀t ∈ l,t.s.size<=140737488355328):∀j,1<=(fR f l j).2.1/\weightL (fR f l j).1+281474976710657<=281474976710657*(fR f l j).2.1/\weightO ((fR f l j).1.map fun x=>(x.str,x))+281474976710657<=281474976710657*(fR f l j).2.1:=by
 intro j
 induction j with
 |zero=>simp [fR,weightL,weightO]
 | succ j ih=>
   rw [fR]
   split
   .exact ih
   .split
    .exact ih
    .rename_i h1 h2
     have hb:=hf (l.drop (fR f l j).2.1) (fun t ht=>hl t (List.mem_of_mem_drop ht))
     have hs:=hb.str
     have hw:=hb.wt h2
     obtain ⟨a,b,c⟩:=ih
     dsimp only
     rw [Y2,List.map_append,Yl]
     simp only [weightL,List.map_cons,List.map_nil,weightO,Yb]
     refine ⟨by omega, ?_, ?_⟩<;>(rw [Nat.mul_add];omega)
theorem zf6 (d:Nat):∀l,(∀t ∈ l,t.s.size<=140737488355328)->RawW (rawP d l).1 (rawP d l).2:=by
 induction d with
 | zero=>
   intro l hl
   cases l with
   |nil=>exact ⟨by simp [rawP,V.none,V.str],by simp [rawP],fun _=>rfl⟩
   | cons t r=>
     have:=hl t (by simp)
     exact ⟨by simp [rawP,V.str];omega,by simp [rawP,V.weight,weightL,weightO];omega,by simp [rawP]⟩
 | succ d ih=>
   intro l hl
   cases l with
   |nil=>exact ⟨by simp [rawP,V.none,V.str],by simp [rawP],fun _=>rfl⟩
   | cons t r=>
     have ht:=hl t (by simp)
     obtain ⟨K,hk⟩:∃K,(t.m % 4).toNat=K:=⟨_,rfl⟩
     rw [rawP,hk]
     obtain ⟨h1,h2,h3⟩:=zgh ih (t::r) hl K
     obtain ⟨p,hp⟩:∃p,fR (rawP d) (t::r) K=p:=⟨_,rfl⟩
     rw [hp] at h1 h2 h3 ⊢
     dsimp only
     rw [rawV]
     split
     .exact ⟨ht,fun _=>by simp only [V.weight,weightO];omega,fun h=>by omega⟩
     .exact ⟨ht,fun _=>by simp only [V.weight,weightL];omega,fun h=>by omega⟩
theorem zd0 (l:List Tk) (hl:∀t ∈ l,t.s.size<=140737488355328):(rawP 20 (l.take 60)).1.weight<=4611686018427387904:=by
 have h:=zf6 20 (l.take 60) (fun t ht=>hl t (List.mem_of_mem_take ht))
 have hu:=Jd 20 (l.take 60)
 rw [List.length_take] at hu
 by_cases h0:(rawP 20 (l.take 60)).2=0
 .rw [h.low h0];simp [V.none,V.weight,weightL,weightO]
 .have:=h.wt h0
  omega
theorem IsToks.sizes {w:World} {B:Nat} {l:List Tk} {a:Option Addr} {n c:Nat} (h:IsToks w B l a n c):∀t ∈ l,t.s.size<=140737488355328:=by
 obtain ⟨_,_,_,b,o,_,h6⟩:=h
 intro t ht
 obtain ⟨i,hi,rfl⟩:=List.mem_iff_getElem.1 ht
 exact (h6 i hi).2.s1
noncomputable def enSound (e:En):Bool:=
 if e.k=1 then lightB e.v && (e.op.length==0)
 else if e.k=2 then eqv e.v V.none && decide (e.op.length<=200) && !e.op.any (fun x=> !cmSound x)
 else if e.k=3 then eqv e.v V.none && (e.op.length==0)
 else false
def En.small (e:En):Prop:=e.v.weight<=4611686018427387904/\∀x ∈ e.op,x.v.weight<=4611686018427387904
structure Boxed1E (w W:World) (c:EC):Prop where
 at_:EntryAt W w.heap.size 0 c
 below:Below w.heap.size w W
 size:w.heap.size+1<=W.heap.size
theorem Boxed1E.step {w W W':World} {c:EC} (h:Boxed1E w W c) (hb:Below W.heap.size W W'):Boxed1E w W' c:=
 ⟨h.at_.keep hb (by have:=h.size;omega),h.below.trans (hb.mono (by have:=h.size;omega)),by have:=h.size;have:=hb.size;omega⟩
theorem Boxed1E.next {w W W1 W2:World} {B:Nat} {c:EC} (h:Boxed1E w W c) (hb:Below B W1 W2) (hW:Below W.heap.size W W1) (hB:B=W1.heap.size):Boxed1E w W2 c:=by
 subst hB;exact (h.step hW).step hb
theorem zj8 (w:World) (c:EC) (t:TypeId):Boxed1E w (w.alloc (.cells #[.int .u8 c.k, .int .u32 c.src, .int .u32 c.seq, .int .u8 c.v.k, .int .i64 c.v.n, .string c.v.s, .slice c.v.la c.v.ll c.v.lc, .slice c.v.oa c.v.ol c.v.oc, .slice c.oa c.ol c.oc] t)) c:=
 ⟨⟨Zk _ _ _ _ _ rfl,Zk _ _ _ _ _ rfl,Zk _ _ _ _ _ rfl,⟨Zk _ _ _ _ _ rfl,Zk _ _ _ _ _ rfl,Zk _ _ _ _ _ rfl,Zk _ _ _ _ _ rfl,Zk _ _ _ _ _ rfl⟩,Zk _ _ _ _ _ rfl⟩,(Below.refl _ _).alloc (Nat.le_refl _) _,by simp⟩
set_option maxRecDepth 100000 in
theorem zei (x:En) (w:World) (hT:Tabs w) (c:EC) (hx:IsEntry w w.heap.size x c) (hs:x.small):
 Calls Tryz.prog 89 #[.agg #[.int .u8 c.k, .int .u32 c.src, .int .u32 c.seq, .int .u8 c.v.k, .int .i64 c.v.n, .string c.v.s, .slice c.v.la c.v.ll c.v.lc, .slice c.v.oa c.v.ol c.v.oc, .slice c.oa c.ol c.oc]] w fun e w'=>e= .returned (.bool (enSound x))/\Below w.heap.size w w':=by
 cases hx with
 |mk c v l hbd hv ho=>
 obtain ⟨hs1,hs2⟩:=hs
 dsimp only at hs1 hs2
 obtain ⟨vn,hvn⟩:∃vn,eqv v V.none=vn:=⟨_,rfl⟩
 obtain ⟨li,hli⟩:∃li,lightB v=li:=⟨_,rfl⟩
 obtain ⟨al,hal⟩:∃al,l.any (fun x=> !cmSound x)=al:=⟨_,rfl⟩
 have HLn:=qh ho.len
 have k1:=ho.few;have k2:=ho.max;have k3:=ho.cap
 have hR2:enSound ⟨c.k,c.src,c.seq,v,l⟩=(if c.k=1 then li && (c.ol==0) else if c.k=2 then vn && decide (c.ol<=200) && !al else if c.k=3 then vn && (c.ol==0) else false):=by
  rw [enSound,hvn,hli,hal, <-HLn.out]
 have HR:=qh hR2
 have HVN:Hid (Behind w 90 #[.agg #[.int .u8 c.v.k, .int .i64 c.v.n, .string c.v.s, .slice c.v.la c.v.ll c.v.lc, .slice c.v.oa c.v.ol c.v.oc], .agg #[.int .u8 0, .int .i64 0, .string { data:= #[] }, .slice none 0 0, .slice none 0 0]] (.bool vn)):=fun W hW=>by rw [<-hvn];exact J7 v V.none W c.v VC.none (hv.later_ hW) (Zo _ _)
 have HLI:Hid (Behind w 141 #[.agg #[.int .u8 c.v.k, .int .i64 c.v.n, .string c.v.s, .slice c.v.la c.v.ll c.v.lc, .slice c.v.oa c.v.ol c.v.oc]] (.bool li)):=fun W hW=>by rw [<-hli];exact zcw v W (hT.below hW) c.v (hv.later_ hW) hs1
 have HCO:Hid (Behind w 142 #[.slice c.oa c.ol c.oc, .func (.func 143) #[] #[]] (.bool al)):=fun W hW=>by
  rw [<-hal]
  exact zkb l W c.oa c.ol c.oc (ho.later_ hW) (fun x=> !cmSound x) 143 (enters_of Tryz.func143 (by kernel_rfl) rfl) (fun x d W' hx hW' hd=>zh7 x W' (hT.below (hW.trans (hW'.mono hW.size))) d hd (hs2 x hx))
 have bx:=zj8 w c 44
 clear hvn hli hR2 hv hbd
 by_cases e1:c.k=1
 .have f1:(c.k==1)=true:=by simp [e1]
  have hR3:enSound ⟨c.k,c.src,c.seq,v,l⟩=(li && (c.ol==0)):=by rw [HR.out,if_pos e1]
  have HR:=qh hR3
  clear e1 hR3 hT hs2 ho hal
  go_enter Tryz.func89,Tryz.ntmps89
  cases li with
  | false=>
    go_wp2_with (first|(go_at_call 90;(with_reducible refine (Behind.at_ (HVN.out) ?_).mono ?_);(focus (have:=bx.below;have:=bx.size;go_grown));rintro e w1 ⟨rfl,hb1⟩;replace bx:=bx.next hb1 (by go_grown) rfl;have zs:w.heap.size<w1.heap.size:=bx.size;have z0:=bx.at_.c0;have y0:=bx.at_.c3.c0;have y1:=bx.at_.c3.c1;have y2:=bx.at_.c3.c2;have y3:=bx.at_.c3.c3;have y4:=bx.at_.c3.c4;have z8:=bx.at_.c8)|(go_at_call 141;(with_reducible refine (Behind.at_ (HLI.out) ?_).mono ?_);(focus (have:=bx.below;have:=bx.size;go_grown));rintro e w1 ⟨rfl,hb1⟩;replace bx:=bx.next hb1 (by go_grown) rfl;have zs:w.heap.size<w1.heap.size:=bx.size;have z0:=bx.at_.c0;have y0:=bx.at_.c3.c0;have y1:=bx.at_.c3.c1;have y2:=bx.at_.c3.c2;have y3:=bx.at_.c3.c3;have y4:=bx.at_.c3.c4;have z8:=bx.at_.c8));go_ret;exact ⟨Zb (by first|(rw [HR.out];done)|(rw [HR.out];simp [*];done)|(rw [HR.out];simp [*];try omega)),by have:=bx.below;have:=bx.size;go_grown⟩
  | true=>
    by_cases hn:c.ol=0
    .have f2:((c.ol:Int)==0)=true:=by simp [hn]
     have f4:(c.ol==0)=true:=by simp [hn]
     clear hn
     go_wp2_with (first|(go_at_call 90;(with_reducible refine (Behind.at_ (HVN.out) ?_).mono ?_);(focus (have:=bx.below;have:=bx.size;go_grown));rintro e w1 ⟨rfl,hb1⟩;replace bx:=bx.next hb1 (by go_grown) rfl;have zs:w.heap.size<w1.heap.size:=bx.size;have z0:=bx.at_.c0;have y0:=bx.at_.c3.c0;have y1:=bx.at_.c3.c1;have y2:=bx.at_.c3.c2;have y3:=bx.at_.c3.c3;have y4:=bx.at_.c3.c4;have z8:=bx.at_.c8)|(go_at_call 141;(with_reducible refine (Behind.at_ (HLI.out) ?_).mono ?_);(focus (have:=bx.below;have:=bx.size;go_grown));rintro e w1 ⟨rfl,hb1⟩;replace bx:=bx.next hb1 (by go_grown) rfl;have zs:w.heap.size<w1.heap.size:=bx.size;have z0:=bx.at_.c0;have y0:=bx.at_.c3.c0;have y1:=bx.at_.c3.c1;have y2:=bx.at_.c3.c2;have y3:=bx.at_.c3.c3;have y4:=bx.at_.c3.c4;have z8:=bx.at_.c8));go_ret;exact ⟨Zb (by first|(rw [HR.out];done)|(rw [HR.out];simp [*];done)|(rw [HR.out];simp [*];try omega)),by have:=bx.below;have:=bx.size;go_grown⟩
    .have f2:((c.ol:Int)==0)=false:=by simp [hn]
     have f4:(c.ol==0)=false:=by simp [hn]
     clear hn
     go_wp2_with (first|(go_at_call 90;(with_reducible refine (Behind.at_ (HVN.out) ?_).mono ?_);(focus (have:=bx.below;have:=bx.size;go_grown));rintro e w1 ⟨rfl,hb1⟩;replace bx:=bx.next hb1 (by go_grown) rfl;have zs:w.heap.size<w1.heap.size:=bx.size;have z0:=bx.at_.c0;have y0:=bx.at_.c3.c0;have y1:=bx.at_.c3.c1;have y2:=bx.at_.c3.c2;have y3:=bx.at_.c3.c3;have y4:=bx.at_.c3.c4;have z8:=bx.at_.c8)|(go_at_call 141;(with_reducible refine (Behind.at_ (HLI.out) ?_).mono ?_);(focus (have:=bx.below;have:=bx.size;go_grown));rintro e w1 ⟨rfl,hb1⟩;replace bx:=bx.next hb1 (by go_grown) rfl;have zs:w.heap.size<w1.heap.size:=bx.size;have z0:=bx.at_.c0;have y0:=bx.at_.c3.c0;have y1:=bx.at_.c3.c1;have y2:=bx.at_.c3.c2;have y3:=bx.at_.c3.c3;have y4:=bx.at_.c3.c4;have z8:=bx.at_.c8));go_ret;exact ⟨Zb (by first|(rw [HR.out];done)|(rw [HR.out];simp [*];done)|(rw [HR.out];simp [*];try omega)),by have:=bx.below;have:=bx.size;go_grown⟩
 have f1:(c.k==1)=false:=by simp [e1]
 by_cases e2:c.k=2
 .have f2:(c.k==2)=true:=by simp [e2]
  have hR3:enSound ⟨c.k,c.src,c.seq,v,l⟩=(vn && decide (c.ol<=200) && !al):=by rw [HR.out,if_neg e1,if_pos e2]
  have HR:=qh hR3
  clear e1 e2 hR3
  clear hT hs2 ho hal
  go_enter Tryz.func89,Tryz.ntmps89
  cases vn with
  |false=>go_wp2_with (go_at_call 90;(with_reducible refine (Behind.at_ (HVN.out) ?_).mono ?_);(focus (have:=bx.below;have:=bx.size;go_grown));rintro e w1 ⟨rfl,hb1⟩;replace bx:=bx.next hb1 (by go_grown) rfl;have zs:w.heap.size<w1.heap.size:=bx.size;have z0:=bx.at_.c0;have y0:=bx.at_.c3.c0;have y1:=bx.at_.c3.c1;have y2:=bx.at_.c3.c2;have y3:=bx.at_.c3.c3;have y4:=bx.at_.c3.c4;have z8:=bx.at_.c8);go_ret;exact ⟨Zb (by first|(rw [HR.out];done)|(rw [HR.out];simp [*];done)|(rw [HR.out];simp [*];try omega)),by have:=bx.below;have:=bx.size;go_grown⟩
  | true=>
    by_cases hn:c.ol<=200
    case neg=>
     have f3:((c.ol:Int)<=200)=False:=by simp;omega
     go_wp2_with (go_at_call 90;(with_reducible refine (Behind.at_ (HVN.out) ?_).mono ?_);(focus (have:=bx.below;have:=bx.size;go_grown));rintro e w1 ⟨rfl,hb1⟩;replace bx:=bx.next hb1 (by go_grown) rfl;have zs:w.heap.size<w1.heap.size:=bx.size;have z0:=bx.at_.c0;have y0:=bx.at_.c3.c0;have y1:=bx.at_.c3.c1;have y2:=bx.at_.c3.c2;have y3:=bx.at_.c3.c3;have y4:=bx.at_.c3.c4;have z8:=bx.at_.c8);go_ret;exact ⟨Zb (by first|(rw [HR.out];done)|(rw [HR.out];simp [*];done)|(rw [HR.out];simp [*];try omega)),by have:=bx.below;have:=bx.size;go_grown⟩
    have f3:((c.ol:Int)<=200)=True:=by simp;omega
    go_wp2_with (first|(go_at_call 90;(with_reducible refine (Behind.at_ (HVN.out) ?_).mono ?_);(focus (have:=bx.below;have:=bx.size;go_grown));rintro e w1 ⟨rfl,hb1⟩;replace bx:=bx.next hb1 (by go_grown) rfl;have zs:w.heap.size<w1.heap.size:=bx.size;have z0:=bx.at_.c0;have y0:=bx.at_.c3.c0;have y1:=bx.at_.c3.c1;have y2:=bx.at_.c3.c2;have y3:=bx.at_.c3.c3;have y4:=bx.at_.c3.c4;have z8:=bx.at_.c8)|(go_at_call 142;(with_reducible refine (Behind.at_ (HCO.out) ?_).mono ?_);(focus (have:=bx.below;have:=bx.size;go_grown));rintro e w1 ⟨rfl,hb1⟩;replace bx:=bx.next hb1 (by go_grown) rfl;have zs:w.heap.size<w1.heap.size:=bx.size;have z0:=bx.at_.c0;have y0:=bx.at_.c3.c0;have y1:=bx.at_.c3.c1;have y2:=bx.at_.c3.c2;have y3:=bx.at_.c3.c3;have y4:=bx.at_.c3.c4;have z8:=bx.at_.c8))
    go_ret;exact ⟨Zb (by first|(rw [HR.out];done)|(rw [HR.out];simp [*];done)|(rw [HR.out];simp [*];try omega)),by have:=bx.below;have:=bx.size;go_grown⟩
 have f2:(c.k==2)=false:=by simp [e2]
 by_cases e3:c.k=3
 .have f3:(c.k==3)=true:=by simp [e3]
  have hR3:enSound ⟨c.k,c.src,c.seq,v,l⟩=(vn && (c.ol==0)):=by rw [HR.out,if_neg e1,if_neg e2,if_pos e3]
  have HR:=qh hR3
  clear e1 e2 e3 hR3 hT hs2 ho hal
  go_enter Tryz.func89,Tryz.ntmps89
  cases vn with
  |false=>go_wp2_with (go_at_call 90;(with_reducible refine (Behind.at_ (HVN.out) ?_).mono ?_);(focus (have:=bx.below;have:=bx.size;go_grown));rintro e w1 ⟨rfl,hb1⟩;replace bx:=bx.next hb1 (by go_grown) rfl;have zs:w.heap.size<w1.heap.size:=bx.size;have z0:=bx.at_.c0;have y0:=bx.at_.c3.c0;have y1:=bx.at_.c3.c1;have y2:=bx.at_.c3.c2;have y3:=bx.at_.c3.c3;have y4:=bx.at_.c3.c4;have z8:=bx.at_.c8);go_ret;exact ⟨Zb (by first|(rw [HR.out];done)|(rw [HR.out];simp [*];done)|(rw [HR.out];simp [*];try omega)),by have:=bx.below;have:=bx.size;go_grown⟩
  | true=>
    by_cases hn:c.ol=0
    .have f2:((c.ol:Int)==0)=true:=by simp [hn]
     have f4:(c.ol==0)=true:=by simp [hn]
     clear hn
     go_wp2_with (go_at_call 90;(with_reducible refine (Behind.at_ (HVN.out) ?_).mono ?_);(focus (have:=bx.below;have:=bx.size;go_grown));rintro e w1 ⟨rfl,hb1⟩;replace bx:=bx.next hb1 (by go_grown) rfl;have zs:w.heap.size<w1.heap.size:=bx.size;have z0:=bx.at_.c0;have y0:=bx.at_.c3.c0;have y1:=bx.at_.c3.c1;have y2:=bx.at_.c3.c2;have y3:=bx.at_.c3.c3;have y4:=bx.at_.c3.c4;have z8:=bx.at_.c8);go_ret;exact ⟨Zb (by first|(rw [HR.out];done)|(rw [HR.out];simp [*];done)|(rw [HR.out];simp [*];try omega)),by have:=bx.below;have:=bx.size;go_grown⟩
    .have f2:((c.ol:Int)==0)=false:=by simp [hn]
     have f4:(c.ol==0)=false:=by simp [hn]
     clear hn
     go_wp2_with (go_at_call 90;(with_reducible refine (Behind.at_ (HVN.out) ?_).mono ?_);(focus (have:=bx.below;have:=bx.size;go_grown));rintro e w1 ⟨rfl,hb1⟩;replace bx:=bx.next hb1 (by go_grown) rfl;have zs:w.heap.size<w1.heap.size:=bx.size;have z0:=bx.at_.c0;have y0:=bx.at_.c3.c0;have y1:=bx.at_.c3.c1;have y2:=bx.at_.c3.c2;have y3:=bx.at_.c3.c3;have y4:=bx.at_.c3.c4;have z8:=bx.at_.c8);go_ret;exact ⟨Zb (by first|(rw [HR.out];done)|(rw [HR.out];simp [*];done)|(rw [HR.out];simp [*];try omega)),by have:=bx.below;have:=bx.size;go_grown⟩
 have f3:(c.k==3)=false:=by simp [e3]
 have hR3:enSound ⟨c.k,c.src,c.seq,v,l⟩=false:=by rw [HR.out,if_neg e1,if_neg e2,if_neg e3]
 have HR:=qh hR3
 clear e1 e2 e3 hR3 hT hs2 ho hal
 go_enter Tryz.func89,Tryz.ntmps89
 go_wp2_with (go_at_call 90;(with_reducible refine (Behind.at_ (HVN.out) ?_).mono ?_);(focus (have:=bx.below;have:=bx.size;go_grown));rintro e w1 ⟨rfl,hb1⟩;replace bx:=bx.next hb1 (by go_grown) rfl;have zs:w.heap.size<w1.heap.size:=bx.size;have z0:=bx.at_.c0;have y0:=bx.at_.c3.c0;have y1:=bx.at_.c3.c1;have y2:=bx.at_.c3.c2;have y3:=bx.at_.c3.c3;have y4:=bx.at_.c3.c4;have z8:=bx.at_.c8);go_ret;exact ⟨Zb (by first|(rw [HR.out];done)|(rw [HR.out];simp [*];done)|(rw [HR.out];simp [*];try omega)),by have:=bx.below;have:=bx.size;go_grown⟩
structure CmB (c:Cm) (K:Nat):Prop where
 bk:c.key.size<=K
 bs:c.s.size<=K
 bp:∀s ∈ c.path,s.key.size<=K
theorem zo8 {K:Nat} (p:List St) (h:∀s ∈ p,s.key.size<=K):(encP p).length<=p.length*(K+9):=by
 induction p with
 |nil=>simp [encP]
 | cons s r ih=>
   have h1:=h s (List.mem_cons_self ..)
   have h2:=ih fun t ht=>h t (List.mem_cons_of_mem _ ht)
   have h3:(encSt s).length<=K+9:=by
    unfold encSt
    split
    .rw [List.length_append,Zc,Zc];omega
    .rw [List.length_append,Zc,Z0];omega
   rw [encP,List.length_append,List.length_cons,Nat.succ_mul];omega
theorem zqv (l:List UInt8):∀v,∀s ∈ walkP v l,s.key.size<=v.weight:=by
 induction l with
 |nil=>intro v s hs;simp [walkP] at hs
 | cons b r ih=>
   intro v s hs
   obtain ⟨k,n,t,ls,os,rfl⟩:=v.eta
   unfold walkP at hs
   split at hs
   .rename_i hl
    have hlt:b.toNat % ls.length<ls.length:=Nat.mod_lt _ hl
    have hm:=Qk ls _ hlt
    have e:(V.mk k n t ls os).ls=ls:=rfl
    rw [e] at hs
    rcases List.mem_cons.1 hs with rfl|hs
    .exact Nat.zero_le _
    .have h1:=ih _ s hs
     simp only [List.getD_eq_getElem?_getD,List.getElem?_eq_getElem hlt,Option.getD_some] at h1
     simp only [V.weight];omega
   .split at hs
    .rename_i ho
     have hlt:b.toNat % os.length<os.length:=Nat.mod_lt _ ho
     have hm:=X3 os _ hlt
     have e:(V.mk k n t ls os).os=os:=rfl
     rw [e] at hs
     simp only [List.getD_eq_getElem?_getD,List.getElem?_eq_getElem hlt,Option.getD_some] at hs
     rcases List.mem_cons.1 hs with rfl|hs
     .simp only [V.weight];omega
     .have h1:=ih _ s hs
      simp only [V.weight];omega
    .exact ih _ s hs
theorem zfs {K:Nat} (l:List Ac):∀v,v.weight+20100*l.length+41<=K->∀c ∈ aimP v l,CmB c K/\c.v.weight<=20000:=by
 induction l with
 |nil=>intro v _ c hc;simp [aimP] at hc
 | cons a r ih =>
   intro v hv c hc
   rw [List.length_cons,Nat.mul_succ] at hv
   unfold aimP at hc
   split at hc
   .exact ih v (by omega) c hc
   .rename_i d hd
    split at hc
    .rename_i h0
     rcases List.mem_cons.1 hc with rfl|hc
     .have hs:=J1 hd
      refine ⟨⟨?_,by have:=hs.ss;omega,fun s hsm=> ?_⟩,hs.sv⟩
      .rcases hs.sk with h|h
       .omega
       .have hck:checkP v c=0:=by
         by_cases he:checkP v c=0
         .exact he
         .rw [doP,if_neg he] at h0;exact absurd h0 he
        obtain ⟨_,x,hg,_⟩:=Xc hck
        obtain ⟨f,hf,e⟩:=h x hg
        have h1:=Xv c.path hg
        obtain ⟨k,n,t,ls,os,rfl⟩:=x.eta
        obtain ⟨i,hi,hfi⟩:=List.getElem_of_mem hf
        have h2:=X3 os i hi
        have e2:os[i] =f:=hfi
        rw [e2,e] at h2
        simp only [V.weight] at h1;omega
      .have hp:s ∈ walkP v (a.path.take 8):=by
        have hsub:∀y:Cm,oneC v a=some y->y.path=aimPath v a.path:=by
         intro y hy
         unfold oneC oneX at hy
         repeat' split at hy
         all_goals first|(injection hy with hy;subst hy;rfl)|cases hy
        rw [hsub c hd] at hsm
        exact List.mem_of_mem_take (List.mem_of_mem_take hsm)
       have:=zqv _ v s hp
       omega
     .have:=zcr hd h0
      exact ih _ (by omega) c hc
    .exact ih v (by omega) c hc
theorem zlz (x:Rc) (hv:∀t ∈ x.v,t.s.size<=140737488355328) (ho:∀b ∈ x.op,∀t ∈ b.v,t.s.size<=140737488355328):(entryP x).small:=by
 have hb:=(Qt x.v).2.1
 have hn:=zbc
 unfold entryP
 split
 .split
  .exact ⟨by dsimp only;omega,fun c hc=>by cases hc⟩
  .split
   .refine ⟨by dsimp only;omega,fun c hc=> ?_⟩
    have hl:(x.acts.take 20).length<=20:=by rw [List.length_take];omega
    have:=(zfs (K:=1048576) (x.acts.take 20) (oneP 6 (x.v.take 60)).1 (by omega) c hc).2
    omega
   .exact ⟨by dsimp only;omega,fun c hc=>by cases hc⟩
 .refine ⟨zd0 x.v hv,fun c hc=> ?_⟩
  obtain ⟨b,hb,rfl⟩:=List.mem_map.1 hc
  exact zd0 b.v (ho b (List.mem_of_mem_take hb))
inductive V.K40:V->Prop
 |mk (k n:Int) (s:ByteArray) (l:List V) (o:List (ByteArray×V)) (hl:∀x ∈ l,V.K40 x) (hk:∀f ∈ o,f.1.size<=40) (ho:∀f ∈ o,V.K40 f.2):V.K40 (.mk k n s l o)
theorem Yh:V.none.K40:= .mk _ _ _ _ _ (fun _ h=>by cases h) (fun _ h=>by cases h) (fun _ h=>by cases h)
theorem V.K40.ls {v:V} (h:v.K40):∀x ∈ v.ls,x.K40:=by cases h with|mk k n s l o hl hk ho=>exact hl
theorem V.K40.os {v:V} (h:v.K40):∀f ∈ v.os,f.1.size<=40/\f.2.K40:=by cases h with|mk k n s l o hl hk ho=>exact fun f hf=>⟨hk f hf,ho f hf⟩
theorem zd5 (t:Tk):(leafP t).K40:=by
 unfold leafP
 repeat' split
 all_goals exact .mk _ _ _ _ _ (fun _ h=>by cases h) (fun _ h=>by cases h) (fun _ h=>by cases h)
theorem zmn {f:List Tk->V×Nat} (hf:∀l,(f l).1.K40) (l:List Tk):∀j,∀x ∈ (bL f l j).1,x.K40:=by
 intro j
 induction j with
 |zero=>intro x h;cases h
 | succ j ih=>
   intro x h
   rw [bL] at h
   rcases List.mem_append.1 h with h|h
   .exact ih x h
   .rw [List.mem_singleton] at h;subst h;exact hf _
theorem zdf {f:List Tk->V×Nat} (hf:∀l,(f l).1.K40) (l:List Tk):∀j,∀x ∈ (bO f l j).1,x.1.size<=40/\x.2.K40:=by
 intro j
 induction j with
 |zero=>intro x h;cases h
 | succ j ih=>
   intro x h
   rw [bO] at h
   rcases zc9 h with h|h
   .exact ih x h
   .subst h;exact ⟨zaz _ _,hf _⟩
theorem zdm (d:Nat):∀l,(oneP d l).1.K40:=by
 induction d with
 | zero=>
   intro l
   cases l with
   |nil=>exact Yh
   |cons t r=>exact zd5 t
 | succ d ih=>
   intro l
   cases l with
   |nil=>exact Yh
   | cons t r=>
     rw [oneP]
     split
     .exact .mk _ _ _ _ _ (zmn ih _ _) (fun _ h=>by cases h) (fun _ h=>by cases h)
     .split
      .exact .mk _ _ _ _ _ (fun _ h=>by cases h) (fun x h=>(zdf ih _ _ x h).1) (fun x h=>(zdf ih _ _ x h).2)
      .exact zd5 t
theorem zek {v:V} {s:St} {x:V} {k:Nat} (hv:v.K40) (h:stepP v s=some (x,k)):x.K40:=by
 rcases Jm h with ⟨_,_,_,hk,rfl⟩|⟨_,_,_,hk,rfl⟩
 .exact hv.ls _ (List.getElem_mem _)
 .exact (hv.os _ (List.getElem_mem _)).2
theorem ze3 (p:List St):∀ {v x:V},v.K40->getP v p=some x->x.K40:=by
 induction p with
 |nil=>intro v x hv h;injection h with h;exact h ▸ hv
 | cons s r ih=>
   intro v x hv h
   unfold getP at h
   cases hs:stepP v s with
   |none=>rw [hs] at h;cases h
   | some q=>
     obtain ⟨y,k⟩:=q
     rw [hs] at h
     exact ih (zek hv hs) h
theorem zoe {v z:V} {i:Nat} (hv:v.K40) (hz:z.K40):(v.setL i z).K40:=by
 cases hv with
 | mk k n s l o hl hk ho=>
   refine .mk _ _ _ _ _ (fun x hx=> ?_) hk ho
   rcases List.mem_or_eq_of_mem_set hx with h|h
   .exact hl x h
   .exact h ▸ hz
theorem zqd {v z:V} {i:Nat} (hv:v.K40) (hz:z.K40):(v.setO i z).K40:=by
 cases hv with
 | mk k n s l o hl hk ho=>
   have key:∀f ∈ putO o i z,f.1.size<=40/\f.2.K40:=by
    intro f hf
    unfold putO at hf
    rcases List.mem_or_eq_of_mem_set hf with h|h
    .exact ⟨hk f h,ho f h⟩
    .subst h
     refine ⟨?_,hz⟩
     dsimp only
     rw [List.getD_eq_getElem?_getD]
     cases hq:o[i]? with
     |none=>exact Nat.zero_le _
     |some y=>exact hk y (List.mem_of_getElem? hq)
   exact .mk _ _ _ _ _ hl (fun f hf=>(key f hf).1) (fun f hf=>(key f hf).2)
theorem zfx (p:List St):∀ {v x w:V},v.K40->x.K40->putP v p x=some w->w.K40:=by
 induction p with
 |nil=>intro v x w _ hx h;injection h with h;exact h ▸ hx
 | cons s r ih=>
   intro v x w hv hx h
   unfold putP at h
   cases hs:stepP v s with
   |none=>rw [hs] at h;cases h
   | some q=>
     obtain ⟨y,k⟩:=q
     rw [hs] at h
     dsimp only at h
     cases hp:putP y r x with
     |none=>rw [hp] at h;cases h
     | some z=>
       rw [hp] at h
       dsimp only at h
       injection h with h
       have hz:=ih (zek hv hs) hx hp
       split at h
       .exact h ▸ zoe hv hz
       .exact h ▸ zqd hv hz
theorem zjr {key:ByteArray} {v:V} (hk:key.size<=40) (hv:v.K40) (o:List (ByteArray×V)):∀(s:List (ByteArray×V)×Bool),(∀f ∈ s.1,f.1.size<=40/\f.2.K40)->(∀f ∈ o,f.1.size<=40/\f.2.K40)->∀f ∈ (o.foldl (fldStep key v) s).1,f.1.size<=40/\f.2.K40:=by
 induction o with
 |nil=>intro s hs _;exact hs
 | cons g o ih=>
   intro s hs ho
   refine ih _ ?_ (fun f hf=>ho f (List.mem_cons_of_mem _ hf))
   have hg:=ho g List.mem_cons_self
   have one:∀ {f x:ByteArray×V},(x.1.size<=40/\x.2.K40)->f ∈ s.1++ [x] ->f.1.size<=40/\f.2.K40:=by
    intro f x hx hf
    rcases List.mem_append.1 hf with h|h
    .exact hs f h
    .rw [List.mem_singleton] at h;exact h ▸ hx
   intro f hf
   unfold fldStep at hf
   split at hf
   .split at hf
    .exact one (x:=(key,v)) ⟨hk,hv⟩ hf
    .rcases List.mem_append.1 hf with h|h
     .exact one (x:=(key,v)) ⟨hk,hv⟩ h
     .rw [List.mem_singleton] at h;exact h ▸ hg
   .split at hf
    .exact hs f hf
    .exact one hg hf
theorem zko {key:ByteArray} {v:V} (hk:key.size<=40) (hv:v.K40) (o:List (ByteArray×V)) (d:Bool) (ho:∀f ∈ o,f.1.size<=40/\f.2.K40):∀f ∈ fieldsDo o key v d,f.1.size<=40/\f.2.K40:=by
 have h:=zjr hk hv o ([],d) (fun f hf=>by cases hf) ho
 unfold fieldsDo
 split
 .intro f hf
  rcases List.mem_append.1 hf with g|g
  .exact h f g
  .rw [List.mem_singleton] at g;exact g ▸ ⟨hk,hv⟩
 .exact h
theorem zh0 {l:List V} {k i j:Int} {v:V} (hl:∀x ∈ l,x.K40) (hv:v.K40):∀x ∈ listDo l k i j v,x.K40:=by
 have hr:∀x ∈ remL l i.toNat,x.K40:=by
  intro x hx
  unfold remL at hx
  rcases List.mem_append.1 hx with h|h
  .exact hl x (List.mem_of_mem_take h)
  .exact hl x (List.mem_of_mem_drop h)
 have hi:∀ {q:List V} {n:Nat} {y:V},(∀x ∈ q,x.K40)->y.K40->∀x ∈ insL q n y,x.K40:=by
  intro q n y hq hy x hx
  unfold insL at hx
  rcases List.mem_append.1 hx with h|h
  .exact hq x (List.mem_of_mem_take h)
  .rcases List.mem_cons.1 h with h|h
   .exact h ▸ hy
   .exact hq x (List.mem_of_mem_drop h)
 unfold listDo
 split
 .exact hi hl hv
 .split
  .exact hr
  .split
   .intro x hx
    rcases List.mem_or_eq_of_mem_set hx with h|h
    .exact hl x h
    .exact h ▸ hv
   .refine hi hr ?_
    rw [List.getD_eq_getElem?_getD]
    cases hq:l[i.toNat]? with
    |none=>exact Yh
    |some y=>exact hl y (List.mem_of_getElem? hq)
theorem zl8 {x:V} {c:Cm} (hx:x.K40) (hv:c.v.K40) (hk:c.key.size<=40):(doneP x c).K40:=by
 have hls:=hx.ls
 have hos:=hx.os
 unfold doneP
 split
 .exact .mk _ _ _ _ _ hls (fun f h=>(hos f h).1) (fun f h=>(hos f h).2)
 .split
  .have:=zko hk hv x.os (c.k==3) hos
   exact .mk _ _ _ _ _ hls (fun f h=>(this f h).1) (fun f h=>(this f h).2)
  .split
   .exact .mk _ _ _ _ _ hls (fun f h=>(hos f h).1) (fun f h=>(hos f h).2)
   .exact .mk _ _ _ _ _ (zh0 hls hv) (fun f h=>(hos f h).1) (fun f h=>(hos f h).2)
theorem zis {v:V} {c:Cm} (hv:v.K40) (hc:c.v.K40) (hk:c.key.size<=40):(doP v c).1.K40:=by
 unfold doP
 split
 .cases hg:getP v c.path with
  |none=>exact Yh
  | some x=>
    dsimp only
    cases hp:putP v c.path (doneP x c) with
    |none=>exact Yh
    |some w=>exact zfx c.path hv (zl8 (ze3 c.path hv hg) hc hk) hp
 .exact Yh
theorem zmk (bs:List UInt8):∀ {v:V},v.K40->∀s ∈ walkP v bs,s.key.size<=40:=by
 induction bs with
 |nil=>intro v _ s h;cases h
 | cons b r ih=>
   intro v hv s h
   unfold walkP at h
   split at h
   .rename_i hc
    rcases List.mem_cons.1 h with h|h
    .subst h;exact Nat.zero_le _
    .refine ih ?_ s h
     have hlt:b.toNat % v.ls.length<v.ls.length:=Nat.mod_lt _ hc
     rw [List.getD_eq_getElem?_getD,List.getElem?_eq_getElem hlt]
     exact hv.ls _ (List.getElem_mem hlt)
   .split at h
    .rename_i hc
     have hlt:b.toNat % v.os.length<v.os.length:=Nat.mod_lt _ hc
     rw [List.getD_eq_getElem?_getD,List.getElem?_eq_getElem hlt] at h
     have hf:=hv.os _ (List.getElem_mem hlt)
     rcases List.mem_cons.1 h with h|h
     .subst h;exact hf.1
     .exact ih hf.2 s h
    .exact ih hv s h
end Go.Proofs.YtfoahkbnheijcaaGreatDoor
