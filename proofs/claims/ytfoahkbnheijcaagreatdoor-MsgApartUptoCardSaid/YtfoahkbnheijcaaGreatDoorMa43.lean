/-
  Contracts of the functions that the law reaches: What is written of a sound message comes.
-/
import Derived.Test.YtfoahkbnheijcaaGreatDoorMa42
import Derived.Deep.LoopGhost
namespace Go.Proofs.YtfoahkbnheijcaaGreatDoor
open Go.RowKit
set_option maxHeartbeats 16000000
theorem zdl (a r:List UInt8):cutP a.length (a++r,false)=(a,(r,false)):=by
 rw [cutP,if_neg (by simp)]
 simp
theorem zf8 (x j:Nat) (h:x<256 ^ j):num (be x j)=x:=by
 have h1:=zcf x j 0
 rw [Nat.zero_mul,Nat.zero_add,Nat.mod_eq_of_lt h] at h1
 exact h1
theorem Xf (x j:Nat) (h:x<256 ^ j) (r:List UInt8):numP j (be x j++r,false)=(x,(r,false)):=by
 have hl:=Zc x j
 have h1:=zdl (be x j) r
 rw [hl] at h1
 rw [numP,h1]
 dsimp only
 rw [zf8 x j h]
theorem zdz (s:ByteArray) (j:Nat) (h:s.size<256 ^ j) (r:List UInt8):textP j (be s.size j++(s.data.toList++r),false)=(s,(r,false)):=by
 have hl:s.data.toList.length=s.size:=by rw [Array.length_toList];rfl
 have h1:=zdl s.data.toList r
 rw [hl] at h1
 rw [textP,Xf s.size j h]
 dsimp only
 rw [h1]
theorem zdd {e:En} (hs:enSound e=true) (hn:e.Num) (hl:(encE e).length<=60000):backE (encE e)=(e,0):=by
 have h:=zh4 e hs hn hl []
 rw [List.append_nil] at h
 obtain ⟨o1,o2⟩:=X1 (l:=encE e) hs hl
 rw [backE,if_neg (by omega),h]
 dsimp only
 rw [o1,o2]
 simp [eqBs]
theorem zjc {v:V} (hs:lightB v=true) (hn:v.Num) (hl:(encV v).length<=60000):backR (encV v)=(v,0):=by
 have hv:=hs
 unfold lightB at hv
 simp only [Bool.and_eq_true,decide_eq_true_eq] at hv
 obtain ⟨⟨v1,v2⟩,v3⟩:=hv
 have h:=zbv 18 v (by omega) hn v1 (by omega) []
 rw [List.append_nil] at h
 obtain ⟨o1,o2⟩:=X1 (l:=encV v) hs hl
 rw [backR,if_neg (by omega),h]
 dsimp only
 rw [o1,o2]
 simp [eqBs]
theorem zhp (x:ByteArray) (l:List ByteArray):encFs (x::l)=be x.size 4++(x.data.toList++encFs l):=by simp [encFs]
theorem zn3 (l:List ByteArray) (h:∀t ∈ l,t.size<4294967296) (r:List UInt8):∀n,n<=l.length->textsP n (encFs l++r,false)=(l.take n,(encFs (l.drop n)++r,false)):=by
 intro n
 induction n with
 |zero=>intro _;simp [textsP]
 | succ n ih=>
   intro hn
   have hn':n<l.length:=by omega
   rw [textsP,ih (by omega)]
   dsimp only
   rw [List.drop_eq_getElem_cons hn',zhp,List.append_assoc,List.append_assoc,zdz l[n] 4 (h _ (List.getElem_mem _))]
   dsimp only
   rw [List.take_succ_eq_append_getElem hn']
structure Ms.Num (m:Ms):Prop where
 e:m.e.Num
 v:m.v.Num
 s0:0<=m.src
 s1:m.src<4294967296
 q0:0<=m.seq
 q1:m.seq<4294967296
 e0:0<=m.err
 e1:m.err<65536
 f:∀t ∈ m.f,t.size<4294967296
 fl:m.f.length<256
theorem zkp (x:Nat):be x 1= [UInt8.ofNat x] :=by simp [be]
theorem Jz {e:En} (h:enNone e=true):e=En.none:=by rw [zm6] at h;exact Z6 h
theorem Qh {v:V} (h:eqv v V.none=true):v=V.none:=by simpa [eqv] using h
theorem zbh {sd:Bool} {l:List UInt8} (h:outN sd l=0):sd=true/\l.length<=60000:=by
 unfold outN at h
 cases sd with
 |false=>simp at h
 | true=>
   rw [if_pos rfl] at h
   split at h
   .omega
   .exact ⟨rfl,by omega⟩
theorem zk3 (m:Ms) (hs:msgSound m=true) (hn:m.Num) (h0:(tailM m).1=0):tailRd m.k m.doc m.n ((tailM m).2,false)=(m,0,false):=by
 obtain ⟨k,doc,n,e,src,seq,err,th,v,f⟩:=m
 obtain ⟨ne,nv,s0,s1,q0,q1,e0,e1,nf,nfl⟩:=hn
 dsimp only at ne nv s0 s1 q0 q1 e0 e1 nf nfl
 have hb:=za9 hs
 dsimp only at hb
 simp only [msgSound,sndM,sameM,Bool.and_eq_true,Bool.or_eq_true,beq_iff_eq,decide_eq_true_eq,Bool.not_eq_true'] at hs
 obtain ⟨_,_,_,_,_,⟨_,hsq,hth,hf⟩,hbr,hv,her,_⟩:=hs
 have hk:k=1∨k=2∨k=3∨k=4∨k=5∨k=6:=by omega
 dsimp only
 rcases hk with rfl|rfl|rfl|rfl|rfl|rfl
 .have hE:e=En.none:=by
   simp only [bringsB] at hbr;exact Jz (by simpa using hbr)
  have hT:th=false:=by rcases hth with h|h;exact absurd h (by decide);exact h
  subst hE hT
  have hV:v=V.none:=Qh (by simpa using hv)
  obtain ⟨rfl,rfl,rfl⟩:src=0/\seq=0/\err=0:=by rcases hsq with h|h;exact absurd h (by decide);exact h
  subst hV
  have ht:(tailM ⟨1,doc,n,En.none,0,0,0,false,V.none,f⟩).2=be f.length 1++encFs f:=rfl
  rw [ht]
  have hN:=Xf f.length 1 (by simpa using nfl) (encFs f)
  have hX:=zn3 f nf [] f.length (Nat.le_refl _)
  rw [List.append_nil,List.take_length,List.drop_length] at hX
  simp only [tailRd,hN,hX]
  simp
 .have hE:e=En.none:=by
   simp only [bringsB] at hbr;exact Jz (by simpa using hbr)
  have hT:th=false:=by rcases hth with h|h;exact absurd h (by decide);exact h
  subst hE hT
  have hV:v=V.none:=Qh (by simpa using hv)
  obtain ⟨rfl,rfl,rfl⟩:src=0/\seq=0/\err=0:=by rcases hsq with h|h;exact absurd h (by decide);exact h
  have hF:f= [] :=by rcases hf with h|h;exact absurd h (by decide);exact List.isEmpty_iff.1 h
  subst hV hF
  rfl
 .have hT:th=false:=by rcases hth with h|h;exact absurd h (by decide);exact h
  subst hT
  have hV:v=V.none:=Qh (by simpa using hv)
  obtain ⟨rfl,rfl,rfl⟩:src=0/\seq=0/\err=0:=by rcases hsq with h|h;exact absurd h (by decide);exact h
  have hF:f= [] :=by rcases hf with h|h;exact absurd h (by decide);exact List.isEmpty_iff.1 h
  subst hV hF
  have h0':outN (enSound e) (encE e)=0:=h0
  obtain ⟨g1,g2⟩:=zbh h0'
  have ht:(tailM ⟨3,doc,n,e,0,0,0,false,V.none, []⟩).2=outB (enSound e) (encE e):=rfl
  rw [ht,(X1 g1 g2).2]
  simp only [tailRd,zdd g1 ne g2]
  rfl
 .have hE:e=En.none:=by
   simp only [bringsB] at hbr;exact Jz (by simpa using hbr)
  obtain ⟨rfl,rfl,rfl⟩:src=0/\seq=0/\err=0:=by rcases hsq with h|h;exact absurd h (by decide);exact h
  have hF:f= [] :=by rcases hf with h|h;exact absurd h (by decide);exact List.isEmpty_iff.1 h
  subst hE hF
  cases th with
  | true=>
    have h0':outN (lightB v) (encV v)=0:=h0
    obtain ⟨g1,g2⟩:=zbh h0'
    have ht:(tailM ⟨4,doc,n,En.none,0,0,0,true,v, []⟩).2=1::outB (lightB v) (encV v):=rfl
    rw [ht,(X1 g1 g2).2]
    have hN:numP 1 (1::encV v,false)=(1,(encV v,false)):=Xf 1 1 (by decide) (encV v)
    simp only [tailRd,hN,zjc g1 nv g2]
    rfl
  | false=>
    have hV:v=V.none:=Qh (by simpa using hv)
    subst hV
    rfl
 .have hT:th=false:=by rcases hth with h|h;exact absurd h (by decide);exact h
  subst hT
  have hV:v=V.none:=Qh (by simpa using hv)
  obtain ⟨rfl,rfl,rfl⟩:src=0/\seq=0/\err=0:=by rcases hsq with h|h;exact absurd h (by decide);exact h
  have hF:f= [] :=by rcases hf with h|h;exact absurd h (by decide);exact List.isEmpty_iff.1 h
  subst hV hF
  have h0':outN (enSound e) (encE e)=0:=h0
  obtain ⟨g1,g2⟩:=zbh h0'
  have ht:(tailM ⟨5,doc,n,e,0,0,0,false,V.none, []⟩).2=outB (enSound e) (encE e):=rfl
  rw [ht,(X1 g1 g2).2]
  simp only [tailRd,zdd g1 ne g2]
  rfl
 .have hE:e=En.none:=by
   simp only [bringsB] at hbr;exact Jz (by simpa using hbr)
  have hT:th=false:=by rcases hth with h|h;exact absurd h (by decide);exact h
  subst hE hT
  have hV:v=V.none:=Qh (by simpa using hv)
  have hF:f= [] :=by rcases hf with h|h;exact absurd h (by decide);exact List.isEmpty_iff.1 h
  subst hV hF
  have ht:(tailM ⟨6,doc,n,En.none,src,seq,err,false,V.none, []⟩).2=be src.toNat 4++(be seq.toNat 4++be err.toNat 2):=by
   show be src.toNat 4++be seq.toNat 4++be err.toNat 2=_
   rw [List.append_assoc]
  rw [ht]
  have n1 := Xf src.toNat 4 (by have:(256:Nat) ^ 4=4294967296:=(by decide);omega) (be seq.toNat 4++be err.toNat 2)
  have n2 := Xf seq.toNat 4 (by have:(256:Nat) ^ 4=4294967296:=(by decide);omega) (be err.toNat 2)
  have n3 := Xf err.toNat 2 (by have:(256:Nat) ^ 2=65536:=(by decide);omega) []
  rw [List.append_nil] at n3
  simp only [tailRd,n1,n2,n3]
  have c1:((src.toNat:Nat):Int)=src:=by omega
  have c2:((seq.toNat:Nat):Int)=seq:=by omega
  have c3:((err.toNat:Nat):Int)=err:=by omega
  rw [c1,c2,c3]
  rfl
theorem zlv (m:Ms) (hb:1<=m.k/\m.k<=6/\m.doc.size<=20/\ -1<=m.n/\m.n<=5000) (hz:numberedB m.k=false->m.n=0) (t:List UInt8):headP (([UInt8.ofNat m.k.toNat] ++be m.doc.size 1++m.doc.data.toList++nbB (numberedB m.k) (m.n+1).toNat)++t)=(m.k,m.doc,m.n,(t,false)):=by
 obtain ⟨b1,b2,b3,b4,b5⟩:=hb
 have hk:((m.k.toNat:Nat):Int)=m.k:=by omega
 have e:([UInt8.ofNat m.k.toNat] ++be m.doc.size 1++m.doc.data.toList++nbB (numberedB m.k) (m.n+1).toNat)++t=be m.k.toNat 1++(be m.doc.size 1++(m.doc.data.toList++(nbB (numberedB m.k) (m.n+1).toNat++t))):=by
  rw [zkp m.k.toNat];simp only [List.append_assoc]
 have p1:(256:Nat) ^ 1=256:=by decide
 have p4:(256:Nat) ^ 4=4294967296:=by decide
 have n1:=Xf m.k.toNat 1 (by omega) (be m.doc.size 1++(m.doc.data.toList++(nbB (numberedB m.k) (m.n+1).toNat++t)))
 have n2:=zdz m.doc 1 (by omega) (nbB (numberedB m.k) (m.n+1).toNat++t)
 rw [e]
 simp only [headP,n1,n2,hk]
 cases hn:numberedB m.k with
 | true=>
   have n3:=Xf (m.n+1).toNat 4 (by omega) t
   have e3:nbB true (m.n+1).toNat++t=be (m.n+1).toNat 4++t:=rfl
   simp only [e3,n3,if_true]
   have e4:(((m.n+1).toNat:Nat):Int) - 1=m.n:=by omega
   rw [e4]
 | false=>
   have e3:nbB false (m.n+1).toNat++t=t:=rfl
   rw [if_neg (by simp),e3,hz hn]
theorem zdu {m:Ms} {bs:List UInt8} (hn:m.Num) (h:encMsg m=(0,bs)):rdMsg bs=(m,0,false):=by
 have hs:msgSound m=true:=zh3 (by rw [h])
 have hb:=za9 hs
 have h1:(tailM m).1=0/\bs=([UInt8.ofNat m.k.toNat] ++be m.doc.size 1++m.doc.data.toList++nbB (numberedB m.k) (m.n+1).toNat)++(tailM m).2:=by
  rw [encMsg,hs] at h
  unfold encOut at h
  rw [if_pos rfl] at h
  split at h
  .rename_i h0
   split at h
   .injection h with h1 _;omega
   .injection h with _ h2;exact ⟨h0,h2.symm⟩
  .rename_i h0
   injection h with h1 _;exact absurd h1 h0
 obtain ⟨h0,rfl⟩:=h1
 have hz:numberedB m.k=false->m.n=0:=by
  intro hf
  simp only [msgSound,sndM,sameM,Bool.and_eq_true,Bool.or_eq_true,beq_iff_eq] at hs
  obtain ⟨_,_,_,_,_,⟨h3,_⟩,_⟩:=hs
  rcases h3 with h3|h3
  .rw [hf] at h3;cases h3
  .exact h3
 rw [rdMsg,zlv m hb hz]
 exact zk3 m hs hn h0
theorem zgw {m m':Ms} {bs:List UInt8} (hn:m.Num) (hn':m'.Num) (h:encMsg m=(0,bs)) (h':encMsg m'=(0,bs)):m=m':=by
 have h1:=zdu hn h
 rw [zdu hn' h'] at h1
 injection h1 with h1 _;exact h1.symm
theorem IsMsg.num {w:World} {B:Nat} {x:Ms} {c:MC} (h:IsMsg w B x c) (hf:x.f.length<256) (ht:∀t ∈ x.f,t.size<4294967296):x.Num:=by
 cases h with
 |mk c e v f hb he hv hff=>exact ⟨he.num,hv.num,hb.s0,hb.s1,hb.q0,hb.q1,hb.e0,hb.e1,ht,hf⟩
theorem zlg (w:World) (a1 a2:Array Value) (t1 t2:TypeId):BC ((w.alloc (.cells a1 t1)).alloc (.cells a2 t2)) w.heap.size a1.toList/\BC ((w.alloc (.cells a1 t1)).alloc (.cells a2 t2)) (w.heap.size+1) a2.toList/\Below w.heap.size w ((w.alloc (.cells a1 t1)).alloc (.cells a2 t2))/\((w.alloc (.cells a1 t1)).alloc (.cells a2 t2)).heap.size=w.heap.size+1+1:=by
 have b1:Below w.heap.size w (w.alloc (.cells a1 t1)):=(Below.refl _ _).alloc (Nat.le_refl _) _
 have b2:Below (w.alloc (.cells a1 t1)).heap.size (w.alloc (.cells a1 t1)) ((w.alloc (.cells a1 t1)).alloc (.cells a2 t2)):=(Below.refl _ _).alloc (Nat.le_refl _) _
 have c2:=BC.start (w.alloc (.cells a1 t1)) a2 t2
 rw [World.size_alloc] at c2
 exact ⟨(BC.start w a1 t1).keep b2 (by simp),c2,b1.trans (b2.mono (by simp)),by simp⟩
theorem IsAct.toks {w:World} {B:Nat} {x:Ac} {c:AC} (h:IsAct w B x c):IsToks w B x.v c.va c.vl c.vc:=by
 cases h with
 |mk c p v hb hp hv=>exact hv
theorem IsBare.toks {w:World} {B:Nat} {x:Ba} {c:BA} (h:IsBare w B x c):IsToks w B x.v c.va c.vl c.vc:=by
 cases h with
 |mk c p v hb hp hv=>exact hv
theorem IsBare.steps {w:World} {B:Nat} {x:Ba} {c:BA} (h:IsBare w B x c):IsSteps w B x.path c.pa c.pl c.pc:=by
 cases h with
 |mk c p v hb hp hv=>exact hp
theorem Zz {x:Int} (h1: -9223372036854775808<=x) (h2:x<=9223372036854775807):wrap64 x=x:=by unfold wrap64;omega
def TheInt (w:World) (z:Nat) (e:Ending) (w':World):Prop:=e= .returned (.int .i64 z)/\Below w.heap.size w w'
def hvT (l:List Tk):Nat:=(l.map fun t=>t.s.size+1).sum
def hvA (a:Ac):Nat:=10+a.path.length+a.s.size+hvT a.v
def hv6 (l:List Ac):Nat:=(l.map hvA).sum
theorem Qr {α:Type} (f:α->Nat) (l:List α) (j:Nat) (h:j<l.length):((l.take (j+1)).map f).sum=((l.take j).map f).sum+f l[j] :=by
 rw [Zv l j h,List.map_append,List.sum_append]
 simp
theorem zhj {α:Type} (f:α->Nat) (l:List α) (j:Nat):((l.take j).map f).sum<=(l.map f).sum:=by
 induction l generalizing j with
 |nil=>simp
 | cons a r ih=>
   cases j with
   |zero=>simp
   |succ j=>have:=ih j;simp only [List.take_succ_cons,List.map_cons,List.sum_cons];omega
theorem Ja {α:Type} (f:α->Nat) (l:List α) (j:Nat) (h:j<l.length):((l.take j).map f).sum+f l[j] <=(l.map f).sum:=by
 rw [<-Qr f l j h];exact zhj f l (j+1)
theorem Kt (l:List Tk) (j:Nat) (h:j<l.length):hvT (l.take (j+1))=hvT (l.take j)+(l[j].s.size+1):=Qr _ l j h
theorem Kb (l:List Tk) (j:Nat) (h:j<l.length):hvT (l.take j)+(l[j].s.size+1)<=hvT l:=Ja (fun t:Tk=>t.s.size+1) l j h
theorem zl5 (l:List Ac) (j:Nat) (h:j<l.length):hv6 (l.take (j+1))=hv6 (l.take j)+hvA l[j] :=Qr _ l j h
theorem zfr (l:List Ac) (j:Nat) (h:j<l.length):hv6 (l.take j)+hvA l[j] <=hv6 l:=Ja hvA l j h
theorem IsAct.parts {w:World} {B:Nat} {x:Ac} {c:AC} (h:IsAct w B x c):hvA x=10+c.pl+c.s.size+hvT x.v/\c.vl=x.v.length/\c.s.size<=140737488355328:=by
 cases h with
 |mk c p v hb hp hv=>exact ⟨by rw [hvA,hp.len],hv.len,hb.s1⟩
set_option maxRecDepth 100000 in
theorem zqs (w:World) (l:List Ac) (a:Option Addr) (n c:Nat) (hl:IsActs w w.heap.size l a n c) (hz:hv6 l<=1099511627776):
 Calls Tryz.prog 17 #[.slice a n c] w (TheInt w (hv6 l)):=by
 have hmax:=hl.max;have hcap:=hl.cap
 have HZ:=qh hz
 have HL:=qh hl
 clear hl hz
 obtain ⟨R,hR⟩:∃R,TheInt w (hv6 l)=R:=⟨_,rfl⟩
 rw [hR]
 have HR:=qh hR
 clear hR
 go_enter Tryz.func17,Tryz.ntmps17
 go_wp2_with fail
 go_loopg [3,4,5] n (fun gh z i _ wr=>∃(x:Int) (j:Nat),j<=n/\gh=n - j/\z= .int .i64 x/\i= .int .i64 j/\Below w.heap.size w wr/\Hid (x=hv6 (l.take j)))
 case atStart=>exact ⟨0,0,Nat.zero_le _,rfl,rfl,rfl,Below.refl _ _,qh (by simp [hv6])⟩
 case round=>
  obtain ⟨x,j,hj,rfl,rfl,rfl,hbl,HX⟩:=hrel
  obtain ⟨w1,hw1⟩:∃w1,w1=wr:=⟨_,rfl⟩
  subst hw1
  have HBL:=qh hbl
  clear hbl
  by_cases hlt:j<n
  .obtain ⟨b,q,f,hpl,rfl,hbB,hat,hia⟩:=HL.out.get hlt
   have hat1:=hat.keep HBL.out hbB
   have s0:=hat1.c0;have s5:=hat1.c5;have s6:=hat1.c6
   have hv:=hia.toks
   have HV:=qh hv
   have HP:=qh hia.parts
   have hvm:=hv.max;have hvc:=hv.cap
   have HM:=qh (zfr l j hpl)
   have HS:=qh (zl5 l j hpl)
   have HAT:=qh hat
   have hbw:b<w1.heap.size:=World.block_lt_of_cell? w1 _ s0
   clear hat hat1 hia hv
   go_wp2_with fail
   go_quiet (fail)
   go_wp2_with fail
   go_loopg [3,5] f.vl (fun gh z k wr=>∃(x:Int) (t:Nat),t<=f.vl/\gh=f.vl - t/\z= .int .i64 x/\k= .int .i64 t/\Below w.heap.size w wr/\Hid (x=hv6 (l.take j)+10+f.pl+f.s.size+hvT ((l[j]'hpl).v.take t)))
   case atStart=>exact ⟨_,0,Nat.zero_le _,rfl,rfl,rfl,HBL.out.trans ((Yx _ _).mono HBL.out.size),qh (by
    have h1:=HX.out;have h2:=HM.out;have h3:=HZ.out;have h4:=HP.out
    rw [h4.1] at h2
    rw [show hvT ((l[j]'hpl).v.take 0)=0 from rfl]
    clear HX HM HZ HP HS HL HV HAT HBL HR
    rw [Zz (x:=10+(f.pl:Int)) (by omega) (by omega),Zz (x:=10+(f.pl:Int)+(f.s.size:Int)) (by omega) (by omega),Zz (by omega) (by omega)]
    omega)⟩
   case round=>
    obtain ⟨y,t,ht,rfl,rfl,rfl,hbl,HY⟩:=hrel
    have hat1:=HAT.out.keep hbl hbB
    clear s0 s5 s6 hbw
    have s6:=hat1.c6
    have hbw:b<wr.heap.size:=World.block_lt_of_cell? wr _ s6
    have HBL2:=qh hbl
    clear hat1 hbl
    by_cases htl:t<f.vl
    .obtain ⟨b2,q2,hp2,hva,hb2,htk,_⟩:=HV.out.get htl
     have htk1:=htk.keep HBL2.out hb2
     have t2:=htk1.c2
     rw [hva] at s6
     have hb2w:b2<wr.heap.size:=World.block_lt_of_cell? wr _ t2
     clear htk htk1 hva
     have HT:=qh (Kb _ t hp2)
     have HT2:=qh (Kt _ t hp2)
     go_wp2_with fail
     go_roundg (f.vl - (t+1))
     case measure=>omega
     case rel=>exact ⟨_,t+1,by omega,rfl,rfl,by go_num,HBL2.out,qh (by
      have h1:=HY.out;have h2:=HM.out;have h3:=HZ.out;have h4:=HP.out;have h5:=HT.out;have h6:=HT2.out
      rw [h4.1] at h2
      rw [h6]
      clear HX HM HZ HP HS HL HV HAT HBL HR HT HT2 HY HBL2
      rw [Zz (x:=1+((l[j]'hpl).v[t].s.size:Int)) (by omega) (by omega),Zz (by omega) (by omega)]
      omega)⟩
    .go_wp2_with fail
     go_roundg (n - (j+1))
     case measure=>omega
     case rel=>exact ⟨_,j+1,by omega,rfl,rfl,by go_num,HBL2.out,qh (by
      have h1:=HY.out;have h4:=HP.out;have h6:=HS.out
      have h7:(l[j]'hpl).v.take t=(l[j]'hpl).v:=List.take_of_length_le (by omega)
      rw [h7] at h1
      rw [h6,h4.1]
      omega)⟩
  .go_wp2_with fail
   rw [<-HR.out]
   exact ⟨by
    have h1:=HX.out
    have h2:l.take j=l:=List.take_of_length_le (by have:=HL.out.len;omega)
    rw [h2] at h1
    rw [h1];rfl,HBL.out⟩
def hvP (p:List St):Nat:=(p.map fun s=>s.key.size).sum
def hvB (b:Ba):Nat:=10+b.s.size+b.key.size+b.path.length+hvP b.path+hvT b.v
def hvO (l:List Ba):Nat:=(l.map hvB).sum
def hv10 (x:Rc):Nat:=hv6 x.acts+hvT x.v+hvO x.op
theorem znt (l:List St) (j:Nat) (h:j<l.length):hvP (l.take (j+1))=hvP (l.take j)+l[j].key.size:=Qr _ l j h
theorem zpo (l:List St) (j:Nat) (h:j<l.length):hvP (l.take j)+l[j].key.size<=hvP l:=Ja (fun s:St=>s.key.size) l j h
theorem zfq (l:List Ba) (j:Nat) (h:j<l.length):hvO (l.take (j+1))=hvO (l.take j)+hvB l[j] :=Qr _ l j h
theorem zk5 (l:List Ba) (j:Nat) (h:j<l.length):hvO (l.take j)+hvB l[j] <=hvO l:=Ja hvB l j h
theorem IsBare.parts {w:World} {B:Nat} {x:Ba} {c:BA} (h:IsBare w B x c):hvB x=10+c.s.size+c.key.size+c.pl+hvP x.path+hvT x.v/\c.vl=x.v.length/\c.pl=x.path.length:=by
 cases h with
 |mk c p v hb hp hv=>exact ⟨by rw [hvB,hp.len],hv.len,hp.len⟩
set_option maxRecDepth 100000 in
theorem zlp (w:World) (c:RC) (x:Rc) (h:IsRec w w.heap.size x c) (hz:hv10 x<=1099511627776):
 Calls Tryz.prog 40 #[.agg #[.int .u8 c.k, .int .u32 c.src, .int .u32 c.seq, .slice c.va c.vl c.vc, .slice c.oa c.ol c.oc, .slice c.aa c.al c.ac, .bool c.snd]] w (TheInt w (hv10 x)):=by
 cases h with
 |mk _ tl bs acs hbd hv ho ha=>
 obtain ⟨R,hR⟩:∃R,TheInt w (hv10 ⟨c.k,c.src,c.seq,tl,bs,acs,c.snd⟩)=R:=⟨_,rfl⟩
 rw [hR]
 have HR:=qh hR
 have hz6:hv6 acs+hvT tl+hvO bs<=1099511627776:=hz
 have HZ:Hid (hv6 acs+hvT tl+hvO bs<=1099511627776):=qh hz6
 have HTL:=qh hv.len
 have HOL:=qh ho.len
 have hal:Below w.heap.size w (w.alloc (.cells #[.int .u8 c.k, .int .u32 c.src, .int .u32 c.seq, .slice c.va c.vl c.vc, .slice c.oa c.ol c.oc, .slice c.aa c.al c.ac, .bool c.snd] 27)):=(Below.refl _ _).alloc (Nat.le_refl _) _
 have HD:=qh (show BC (w.alloc (.cells #[.int .u8 c.k, .int .u32 c.src, .int .u32 c.seq, .slice c.va c.vl c.vc, .slice c.oa c.ol c.oc, .slice c.aa c.al c.ac, .bool c.snd] 27)) w.heap.size (rcells c) from BC.start w #[.int .u8 c.k, .int .u32 c.src, .int .u32 c.seq, .slice c.va c.vl c.vc, .slice c.oa c.ol c.oc, .slice c.aa c.al c.ac, .bool c.snd] 27)
 have HAL:=qh hal
 have HH:Hid (∀W,Below w.heap.size w W->Calls Tryz.prog 17 #[.slice c.aa c.al c.ac] W (TheInt W (hv6 acs))):=fun W hW=>zqs W acs _ _ _ (ha.later_ hW) (by omega)
 have m1:=hv.max;have m2:=hv.cap;have m3:=ho.max;have m4:=ho.cap
 have HV:=qh hv;have HO:=qh ho
 clear hR hal hv ho ha hbd hz hz6
 go_enter Tryz.func40,Tryz.ntmps40
 go_wp2_with fail
 refine (HH.out _ HAL.out).mono ?_
 rintro e w1 ⟨rfl,hb1⟩
 obtain ⟨z0,hz0⟩:∃z0:Int,z0=(hv6 acs:Int):=⟨_,rfl⟩
 rw [<-hz0]
 have HZ0:=qh hz0
 clear hz0
 have D:=HD.out.keep hb1 (by simp)
 have hbw:Below w.heap.size w w1:=HAL.out.trans (hb1.mono (by simp))
 have HB:=qh hbw
 have HD1:=qh D
 have HV1:=qh (HV.out.keep hbw)
 have HO1:=qh (HO.out.keep hbw)
 have zs:w.heap.size<w1.heap.size:=D.lt
 clear hb1 hbw D
 go_upto_block 0 with fail
 go_wp2_with fail
 go_loopg [3,4] c.vl (fun gh z i wr=>∃(x:Int) (j:Nat),j<=c.vl/\gh=c.vl - j/\z= .int .i64 x/\i= .int .i64 j/\Below w1.heap.size w1 wr/\Hid (x=hv6 acs+hvT (tl.take j)))
 case atStart=>exact ⟨z0,0,Nat.zero_le _,rfl,rfl,rfl,Below.refl _ _,qh (by rw [HZ0.out];simp [hvT])⟩
 case round =>
  obtain ⟨y,j,hj,rfl,rfl,rfl,hbl,HX⟩:=hrel
  obtain ⟨wu,hwu⟩:∃wu,wu=wr:=⟨_,rfl⟩
  subst hwu
  have D:=HD1.out.keep hbl zs
  have q3:=D.at_ 3 _ rfl;have q4:=D.at_ 4 _ rfl
  have zu:=D.lt
  have HBL:=qh hbl
  clear hbl D
  by_cases hlt:j<c.vl
  .obtain ⟨b2,q2,hp2,hva,hb2,htk,_⟩:=HV1.out.get hlt
   have htk1:=htk.keep HBL.out (by omega)
   have t2:=htk1.c2
   rw [hva] at q3
   have hb2w:b2<wu.heap.size:=World.block_lt_of_cell? wu _ t2
   clear htk htk1 hva
   have HM:=qh (Kb tl j hp2);have HS:=qh (Kt tl j hp2)
   go_wp2_with fail
   go_roundg (c.vl - (j+1))
   case measure=>omega
   case rel=>exact ⟨_,j+1,by omega,rfl,rfl,by go_num,HBL.out,qh (by
    have h1:=HX.out;have h2:=HM.out;have h3:=HZ.out;have h6:=HS.out
    rw [h6]
    clear HX HM HS HZ HR HV HO
    rw [Zz (x:=((tl[j]'hp2).s.size:Int)+1) (by omega) (by omega),Zz (by omega) (by omega)]
    omega)⟩
  .skip
   go_wp2_with fail
   go_loopg [3,5,6,7] c.ol (fun gh z i _ _ wr=>∃(x:Int) (j:Nat),j<=c.ol/\gh=c.ol - j/\z= .int .i64 x/\i= .int .i64 j/\Below w1.heap.size w1 wr/\Hid (x=hv6 acs+hvT tl+hvO (bs.take j)))
   case atStart=>exact ⟨_,0,Nat.zero_le _,rfl,rfl,rfl,HBL.out,qh (by
    have h1:=HX.out
    have h2:tl.take j=tl:=List.take_of_length_le (by have:=HTL.out;omega)
    rw [h2] at h1
    rw [h1];simp [hvO])⟩
   case round =>
    obtain ⟨y,j,hj,rfl,rfl,rfl,hbl,HX2⟩:=hrel
    obtain ⟨wv,hwv⟩:∃wv,wv=wr:=⟨_,rfl⟩
    subst hwv
    have D:=HD1.out.keep hbl zs
    have q4:=D.at_ 4 _ rfl
    have zu:=D.lt
    have HBL:=qh hbl
    clear hbl D
    by_cases hlt:j<c.ol
    .obtain ⟨b,q,f,hpl,hoa,hbB,hat,hia⟩:=HO1.out.get hlt
     have hat1:=hat.keep HBL.out (by omega)
     have s1:=hat1.c1;have s2:=hat1.c2;have s6:=hat1.c6;have s7:=hat1.c7
     have hbw:b<wv.heap.size:=World.block_lt_of_cell? wv _ s1
     have hst:=hia.steps;have hvv:=hia.toks
     have HP:=qh hia.parts
     have HM:=qh (zk5 bs j hpl);have HS:=qh (zfq bs j hpl)
     have n1:=hst.max;have n2:=hst.cap;have n3:=hvv.max;have n4:=hvv.cap
     rw [hoa] at q4
     have HOA:=qh hoa
     have HST:=qh hst;have HVV:=qh hvv;have HAT:=qh hat
     clear hat hat1 hia hst hvv hoa
     go_wp2_with fail
     go_quiet (fail)
     have hbq:∀k,Below w1.heap.size w1 (wv.drewN k):=fun k=>HBL.out.trans ((Yx wv k).mono HBL.out.size)
     have HBQ:=qh hbq
     clear hbq
     go_wp2_with fail
     go_loopg [3,6] f.pl (fun gh z i wr=>∃(x:Int) (k:Nat),k<=f.pl/\gh=f.pl - k/\z= .int .i64 x/\i= .int .i64 k/\Below w1.heap.size w1 wr/\Hid (x=hv6 acs+hvT tl+hvO (bs.take j)+10+f.s.size+f.key.size+f.pl+hvP ((bs[j]'hpl).path.take k)))
     case atStart=>exact ⟨_,0,Nat.zero_le _,rfl,rfl,rfl,HBQ.out _,qh (by
      have h1:=HX2.out;have h2:=HM.out;have h3:=HZ.out;have h4:=HP.out
      rw [h4.1] at h2
      rw [show hvP ((bs[j]'hpl).path.take 0)=0 from rfl]
      clear HX2 HM HZ HP HS HR HV HO
      rw [Zz (x:=10+(f.s.size:Int)) (by omega) (by omega),Zz (x:=10+(f.s.size:Int)+(f.key.size:Int)) (by omega) (by omega),Zz (x:=10+(f.s.size:Int)+(f.key.size:Int)+(f.pl:Int)) (by omega) (by omega),Zz (by omega) (by omega)]
      omega)⟩
     case round=>
      obtain ⟨y2,k,hk,rfl,rfl,rfl,hbl,HX3⟩:=hrel
      obtain ⟨wx,hwx⟩:∃wx,wx=wr:=⟨_,rfl⟩
      subst hwx
      have D:=HD1.out.keep hbl zs
      have q4:=D.at_ 4 _ rfl
      rw [HOA.out] at q4
      have zu:=D.lt
      have hat1:=HAT.out.keep hbl (by omega)
      have s1:=hat1.c1;have s7:=hat1.c7
      have hbw:b<wx.heap.size:=World.block_lt_of_cell? wx _ s1
      have HBL3:=qh hbl
      clear hbl D hat1
      by_cases hkl:k<f.pl
      .obtain ⟨b3,q3,hp3,hpa,hb3,hsp,_⟩:=HST.out.get hkl
       have hsp1:=hsp.keep HBL3.out (by omega)
       have u2:=hsp1.c2
       rw [hpa] at s1
       have hb3w:b3<wx.heap.size:=World.block_lt_of_cell? wx _ u2
       clear hsp hsp1 hpa
       have HT:=qh (zpo _ k hp3);have HT2:=qh (znt _ k hp3)
       go_wp2_with fail
       go_roundg (f.pl - (k+1))
       case measure=>omega
       case rel=>exact ⟨_,k+1,by omega,rfl,rfl,by go_num,HBL3.out,qh (by
        have h1:=HX3.out;have h2:=HM.out;have h3:=HZ.out;have h4:=HP.out;have h5:=HT.out;have h6:=HT2.out
        rw [h4.1] at h2
        rw [h6]
        clear HX2 HX3 HM HZ HP HS HR HV HO HT HT2
        rw [Zz (by omega) (by omega)]
        omega)⟩
      .skip
       go_wp2_with fail
       go_loopg [3,7] f.vl (fun gh z i wr=>∃(x:Int) (t:Nat),t<=f.vl/\gh=f.vl - t/\z= .int .i64 x/\i= .int .i64 t/\Below w1.heap.size w1 wr/\Hid (x=hv6 acs+hvT tl+hvO (bs.take j)+10+f.s.size+f.key.size+f.pl+hvP (bs[j]'hpl).path+hvT ((bs[j]'hpl).v.take t)))
       case atStart=>exact ⟨_,0,Nat.zero_le _,rfl,rfl,rfl,HBL3.out,qh (by
        have h1:=HX3.out;have h4:=HP.out
        have h2:(bs[j]'hpl).path.take k=(bs[j]'hpl).path:=List.take_of_length_le (by omega)
        rw [h2] at h1
        rw [h1,show hvT ((bs[j]'hpl).v.take 0)=0 from rfl];omega)⟩
       case round=>
        obtain ⟨y3,t,ht,rfl,rfl,rfl,hbl,HX4⟩:=hrel
        have D:=HD1.out.keep hbl zs
        have q4:=D.at_ 4 _ rfl
        rw [HOA.out] at q4
        have zw:=D.lt
        have hat1:=HAT.out.keep hbl (by omega)
        have s7:=hat1.c7
        have hbw2:b<wr.heap.size:=World.block_lt_of_cell? wr _ s7
        have HBL4:=qh hbl
        clear hbl D hat1
        by_cases htl:t<f.vl
        .obtain ⟨b4,q5,hp4,hva,hb4,htk,_⟩:=HVV.out.get htl
         have htk1:=htk.keep HBL4.out (by omega)
         have t2:=htk1.c2
         rw [hva] at s7
         have hb4w:b4<wr.heap.size:=World.block_lt_of_cell? wr _ t2
         clear htk htk1 hva
         have HT:=qh (Kb _ t hp4);have HT2:=qh (Kt _ t hp4)
         go_wp2_with fail
         go_roundg (f.vl - (t+1))
         case measure=>omega
         case rel=>exact ⟨_,t+1,by omega,rfl,rfl,by go_num,HBL4.out,qh (by
          have h1:=HX4.out;have h2:=HM.out;have h3:=HZ.out;have h4:=HP.out;have h5:=HT.out;have h6:=HT2.out
          rw [h4.1] at h2
          rw [h6]
          clear HX2 HX3 HX4 HM HZ HP HS HR HV HO HT HT2
          rw [Zz (x:=(((bs[j]'hpl).v[t]'hp4).s.size:Int)+1) (by omega) (by omega),Zz (by omega) (by omega)]
          omega)⟩
        .go_wp2_with fail
         go_roundg (c.ol - (j+1))
         case measure=>omega
         case rel=>exact ⟨_,j+1,by omega,rfl,rfl,by go_num,HBL4.out,qh (by
          have h1:=HX4.out;have h4:=HP.out;have h6:=HS.out
          have h7:(bs[j]'hpl).v.take t=(bs[j]'hpl).v:=List.take_of_length_le (by omega)
          rw [h7] at h1
          rw [h6,h4.1]
          omega)⟩
    .go_wp2_with fail
     rw [<-HR.out]
     exact ⟨by
      have h1:=HX2.out
      have h2:bs.take j=bs:=List.take_of_length_le (by have:=HOL.out;omega)
      rw [h2] at h1
      rw [h1];rfl,HB.out.trans (HBL.out.mono HB.out.size)⟩
end Go.Proofs.YtfoahkbnheijcaaGreatDoor
