/-
  Contracts of the functions that the law reaches: How many bytes a Build is written in: a.
-/
import Derived.Test.YtfoahkbnheijcaaGreatDoorMa36
namespace Go.Proofs.YtfoahkbnheijcaaGreatDoor
open Go.RowKit
set_option maxHeartbeats 8000000
def plainSum (l:List Tk) (u:Nat):Nat:=((l.take u).map fun t=>(plainS t.s).size).sum
theorem ze7 (l:List Tk) (i u:Nat):plainSum l i+plainSum (l.drop i) u=plainSum l (i+u):=by
 unfold plainSum
 rw [<-List.sum_append, <-List.map_append]
 congr 2
 rw [List.take_add]
def plainOne (l:List Tk):Nat:=(keyP l 0).size
theorem zdb (t:Tk) (r:List Tk):plainOne (t::r)=(plainS t.s).size:=rfl
theorem zai (t:Tk) (r:List Tk):plainSum (t::r) 1=(plainS t.s).size:=by simp [plainSum]
theorem zoq (l:List Tk) (i:Nat):(keyP l i).size=plainOne (l.drop i):=by
 unfold plainOne keyP
 rw [List.getElem?_drop,Nat.add_zero]
structure Lean1 (l:List Tk) (v:V) (u:Nat):Prop where
 some:0<u->(encV v).length+plainOne l<=20*u+2*plainSum l u
 none:u=0->(encV v).length=1/\plainOne l=0
theorem Lean1.key {l:List Tk} {v:V} {u:Nat} (h:Lean1 l v u):(encV v).length+plainOne l<=20*u+2*plainSum l u+1:=by
 by_cases hu:u=0
 .have:=h.none hu;omega
 .have:=h.some (by omega);omega
theorem ze1 (t:Tk) (r:List Tk):(encV (leafP t)).length+plainOne (t::r)<=20+2*plainSum (t::r) 1:=by
 rw [zdb,zai]
 unfold leafP
 split
 .simp [encV,Zc];omega
 .split
  .simp [encV,Zc];omega
  .split
   .simp [encV,Zc,Z0];omega
   .split
    .simp [encV,encL,Zc];omega
    .split
     .simp [encV,encO,Zc];omega
     .simp [V.none,encV,Zc];omega
theorem zhv {f:List Tk->V×Nat} (hf:∀l,Lean1 l (f l).1 (f l).2) (t:Tk) (r:List Tk):∀j,1<=(bL f (t::r) j).2/\(encL (bL f (t::r) j).1).length+2*(plainS t.s).size<=20*((bL f (t::r) j).2 - 1)+2*plainSum (t::r) (bL f (t::r) j).2+j:=by
 intro j
 induction j with
 |zero=>exact ⟨Nat.le_refl _,by simp [bL,encL,zai]⟩
 | succ j ih=>
   obtain ⟨h1,h2⟩:=ih
   rw [bL]
   dsimp only
   have hk:=(hf ((t::r).drop (bL f (t::r) j).2)).key
   have hd:=ze7 (t::r) (bL f (t::r) j).2 (f ((t::r).drop (bL f (t::r) j).2)).2
   rw [Jp,List.length_append]
   simp only [encL,List.append_nil]
   exact ⟨by omega,by omega⟩
theorem zi0 {f:List Tk->V×Nat} (hf:∀l,Lean1 l (f l).1 (f l).2) (t:Tk) (r:List Tk):∀j,1<=(bO f (t::r) j).2/\(encO (bO f (t::r) j).1).length+2*(plainS t.s).size<=20*((bO f (t::r) j).2 - 1)+2*plainSum (t::r) (bO f (t::r) j).2+5*j:=by
 intro j
 induction j with
 |zero=>exact ⟨Nat.le_refl _,by simp [bO,encO,zai]⟩
 | succ j ih=>
   obtain ⟨h1,h2⟩:=ih
   rw [bO]
   dsimp only
   have hk:=(hf ((t::r).drop (bO f (t::r) j).2)).key
   have hd:=ze7 (t::r) (bO f (t::r) j).2 (f ((t::r).drop (bO f (t::r) j).2)).2
   have hky:=zoq (t::r) (bO f (t::r) j).2
   have s2:=za6 (fun f=>(encF f).length) (bO f (t::r) j).1 (keyP (t::r) (bO f (t::r) j).2) (f ((t::r).drop (bO f (t::r) j).2)).1
   rw [<-Km, <-Km] at s2
   rw [X6,List.length_append,Z0] at s2
   dsimp only at s2
   exact ⟨by omega,by omega⟩
theorem zbw (d:Nat):∀l,Lean1 l (oneP d l).1 (oneP d l).2:=by
 induction d with
 | zero=>
   intro l
   cases l with
   |nil=>exact ⟨fun h=>by simp [oneP] at h,fun _=>⟨by simp [oneP,V.none,encV,Zc],rfl⟩⟩
   |cons t r=>exact ⟨fun _=>by have:=ze1 t r;simpa [oneP] using this,fun h=>by simp [oneP] at h⟩
 | succ d ih=>
   intro l
   cases l with
   |nil=>exact ⟨fun h=>by simp [oneP] at h,fun _=>⟨by simp [oneP,V.none,encV,Zc],rfl⟩⟩
   | cons t r=>
     have hK:(t.m % 4).toNat<=3:=by omega
     obtain ⟨K,hk⟩:∃K,(t.m % 4).toNat=K:=⟨_,rfl⟩
     rw [oneP,hk]
     rw [hk] at hK
     have ho:=zdb t r
     split
     .obtain ⟨h1,h2⟩:=zhv ih t r K
      refine ⟨fun _=> ?_,fun h=>by dsimp only at h;omega⟩
      dsimp only
      rw [encV,if_neg (by omega),if_neg (by omega),if_pos rfl,List.length_append,List.length_append,Zc,Zc,ho];omega
     .split
      .obtain ⟨h1,h2⟩:=zi0 ih t r K
       refine ⟨fun _=> ?_,fun h=>by dsimp only at h;omega⟩
       dsimp only
       rw [encV,if_neg (by omega),if_neg (by omega),if_neg (by omega),if_pos rfl,List.length_append,List.length_append,Zc,Zc,ho];omega
      .exact ⟨fun _=>ze1 t r,fun h=>by dsimp only at h;omega⟩
def tsum (l:List Tk):Nat:=(l.map fun t=>t.s.size).sum
def asum (l:List Ac):Nat:=(l.map fun a=>tsum a.v).sum
theorem zre (s:ByteArray):(plainS s).size<=s.size:=by
 have h:(plainS s).size=(plainL s.data.toList).length:=by
  show (plainL s.data.toList).toArray.size=_
  simp
 have e:s.data.toList.length=s.size:=Array.length_toList
 rw [h,plainL,List.length_map,List.length_take];omega
theorem zgn (l:List Tk) (u:Nat):plainSum l u<=tsum l:=by
 induction l generalizing u with
 |nil=>simp [plainSum,tsum]
 | cons t r ih=>
   cases u with
   |zero=>simp [plainSum]
   | succ u=>
     have h1:=ih u
     have h2:=zre t.s
     unfold plainSum tsum at*
     simp only [List.take_succ_cons,List.map_cons,List.sum_cons];omega
theorem zm2 (l:List Tk) (n:Nat):tsum (l.take n)<=tsum l:=by
 induction l generalizing n with
 |nil=>simp [tsum]
 | cons t r ih=>
   cases n with
   |zero=>simp [tsum]
   | succ n=>
     have h1:=ih n
     unfold tsum at*
     simp only [List.take_succ_cons,List.map_cons,List.sum_cons];omega
theorem zln (l:List Ac) (n:Nat):asum (l.take n)<=asum l:=by
 induction l generalizing n with
 |nil=>simp [asum]
 | cons t r ih=>
   cases n with
   |zero=>simp [asum]
   | succ n=>
     have h1:=ih n
     unfold asum at*
     simp only [List.take_succ_cons,List.map_cons,List.sum_cons];omega
theorem zpc (l:List Tk):(encV (oneP 6 (l.take 60)).1).length<=1201+2*tsum l:=by
 have h:=(zbw 6 (l.take 60)).key
 have hu:=X2 6 (l.take 60)
 rw [List.length_take] at hu
 have h1:=zgn (l.take 60) (oneP 6 (l.take 60)).2
 have h2:=zm2 l 60
 omega
theorem zg2:(encV V.none).length=1:=by simp [V.none,encV,Zc]
structure AimC (c:Cm) (a:Ac):Prop where
 key:c.key.size<=40
 s:c.s.size<=41
 path:c.path.length<=5
 ps:∀s ∈ c.path,s.key.size<=40
 v:c.v.K40
 enc:(encV c.v).length<=1201+2*tsum a.v
theorem zhm {v:V} (hv:v.K40) (p:List St):(xAt v p).K40:=by
 unfold xAt
 cases h:getP v p with
 |none=>exact Yh
 |some x=>exact ze3 p hv h
theorem zng {v:V} (hv:v.K40) (bs:List UInt8):∀s ∈ aimPath v bs,s.key.size<=40:=
 fun s h=>zmk _ hv s (List.mem_of_mem_take (List.mem_of_mem_take h))
theorem zkd {v:V} {a:Ac} {c:Cm} (hv:v.K40) (h:oneC v a=some c):AimC c a:=by
 have hs:=J1 h
 have hx:=zhm hv (aimPath v a.path)
 have hp:=zng hv a.path
 unfold oneC at h
 obtain ⟨p,hpe⟩:∃p,aimPath v a.path=p:=⟨_,rfl⟩
 rw [hpe] at h hx hp
 obtain ⟨x,hxe⟩:∃x,xAt v p=x:=⟨_,rfl⟩
 rw [hxe] at h hx
 have hb:=zpc a.v
 have hn:=zg2
 have hk6:=zdm 6 (a.v.take 60)
 have hps:=Ye a.s
 have hss:=hs.ss
 have hsp:=hs.sp
 unfold oneX at h
 split at h
 .injection h with h;subst h
  exact ⟨Nat.zero_le _,hss,hsp,hp,Yh,by show (encV V.none).length<=_;omega⟩
 .split at h
  .injection h with h;subst h
   have hk:(textA x.str.size a.bare czero).key.size<=40:=by
    unfold textA
    split<;>exact Nat.zero_le _
   exact ⟨hk,hss,hsp,hp,Yh,by show (encV V.none).length<=_;omega⟩
  .split at h
   .injection h with h;subst h
    have hk:(listA x.ls.length a.bare czero vzero).key.size<=40:=Nat.zero_le _
    have hv2:(listV x.ls.length a.k a.v).K40:=by
     unfold listV
     split
     .exact hk6
     .exact Yh
    refine ⟨hk,hss,hsp,hp,hv2, ?_⟩
    show (encV (listV _ _ _)).length<=_
    unfold listV
    split<;>omega
   .split at h
    .injection h with h;subst h
     have hk:(fieldKey x.os a.bare).size<=40:=by
      unfold fieldKey
      split
      .rw [List.getD_eq_getElem?_getD]
       cases hq:x.os[(max a.bare.i 0 % (x.os.length:Int)).toNat]? with
       |none=>exact Nat.zero_le _
       |some y=>exact (hx.os y (List.mem_of_getElem? hq)).1
      .exact hps
     have hv2:(fieldV x.os a.bare a.v).K40:=by
      unfold fieldV
      split
      .exact Yh
      .exact hk6
     refine ⟨hk,hss,hsp,hp,hv2, ?_⟩
     show (encV (fieldV _ _ _)).length<=_
     unfold fieldV
     split<;>omega
    .cases h
theorem zkc (p:List St) (h:∀s ∈ p,s.key.size<=40):(encP p).length<=p.length*49:=zo8 (K:=40) p h
theorem zjs {c:Cm} {a:Ac} (h:AimC c a):(encC c).length<=1620+2*tsum a.v:=by
 obtain ⟨h1,h2,h3,h4,h5,h6⟩:=h
 have hp:=zkc c.path h4
 have hT:(encT c).length<=44+8+8+8+(encV c.v).length+45:=by
  unfold encT
  simp only [List.length_append]
  have e1:(if hasB (saysB c.k) 75=true then encS c.key else []).length<=44:=by split<;>simp only [Z0,List.length_nil] <;>omega
  have e2:(if hasB (saysB c.k) 73=true then be (c.i % 18446744073709551616).toNat 8 else []).length<=8:=by split<;>simp [Zc]
  have e3:(if hasB (saysB c.k) 74=true then be (c.j % 18446744073709551616).toNat 8 else []).length<=8:=by split<;>simp [Zc]
  have e4:(if hasB (saysB c.k) 78=true then be (c.n % 18446744073709551616).toNat 8 else []).length<=8:=by split<;>simp [Zc]
  have e5:(if hasB (saysB c.k) 86=true then encV c.v else []).length<=(encV c.v).length:=by split<;>simp
  have e6:(if hasB (saysB c.k) 83=true then encS c.s else []).length<=45:=by split<;>simp only [Z0,List.length_nil] <;>omega
  omega
 have h7:c.path.length*49<=5*49:=Nat.mul_le_mul_right _ h3
 rw [encC,List.length_append,List.length_append,List.length_append,Zc,Zc];omega
theorem zlw (l:List Ac):∀v,v.K40->(encCs (aimP v l)).length<=1620*l.length+2*asum l:=by
 induction l with
 |nil=>intro v _;simp [aimP,encCs]
 | cons a r ih=>
   intro v hv
   have hs:asum (a::r)=tsum a.v+asum r:=by simp [asum]
   rw [List.length_cons,Nat.mul_succ,hs]
   unfold aimP
   split
   .have:=ih v hv;omega
   .rename_i c hc
    split
    .have h1:=zkd hv hc
     have h2:=ih (doP v c).1 (zis hv h1.v h1.key)
     have h3:=zjs h1
     rw [encCs,List.length_append];omega
    .have:=ih v hv;omega
theorem zm5 (l:List Ac):∀v,∀c ∈ aimP v l,cmSound c=true:=by
 induction l with
 |nil=>intro v c h;simp [aimP] at h
 | cons a r ih=>
   intro v c h
   unfold aimP at h
   split at h
   .exact ih v c h
   .rename_i d _
    split at h
    .rename_i h0
     rcases List.mem_cons.1 h with rfl|h
     .by_cases he:checkP v c=0
      .exact (Xc he).1
      .rw [doP,if_neg he] at h0;exact absurd h0 he
     .exact ih _ c h
    .exact ih v c h
theorem zdk (x:Rc) (hs:x.snd=true):enSound (entryP x)=true:=by
 unfold entryP
 rw [if_pos hs]
 have hnn:eqv V.none V.none=true:=by simp [eqv]
 split
 .rw [enSound]
  dsimp only
  rw [if_pos rfl,(Qt x.v).1];rfl
 .split
  .rw [enSound]
   dsimp only
   rw [if_neg (by decide),if_pos rfl,hnn]
   have hl:=znz (x.acts.take 20) (oneP 6 (x.v.take 60)).1
   rw [List.length_take] at hl
   rw [decide_eq_true (by omega)]
   simp only [Bool.true_and,Bool.not_eq_true',List.any_eq_false]
   intro c hc
   have:=zm5 _ _ c hc
   simp [this]
  .rw [enSound]
   dsimp only
   rw [if_neg (by decide),if_neg (by decide),if_pos rfl,hnn];rfl
theorem zd1 (l:List Tk):(encV (oneP 6 (l.take 60)).1).length<=6001:=by
 have hb:=(zbw 6 (l.take 60)).key
 have hu:=X2 6 (l.take 60)
 have hp:plainSum (l.take 60) (oneP 6 (l.take 60)).2<=40*(oneP 6 (l.take 60)).2:=by
  generalize (oneP 6 (l.take 60)).2=u
  generalize l.take 60=l
  induction l generalizing u with
  |nil=>simp [plainSum]
  | cons t r ih=>
    cases u with
    |zero=>simp [plainSum]
    | succ u=>
      have h1:=ih u
      have h2:=Ye t.s
      unfold plainSum at*
      simp only [List.take_succ_cons,List.map_cons,List.sum_cons];omega
 rw [List.length_take] at hu
 omega
theorem zfd (x:Rc) (hs:x.snd=true) (hh:asum x.acts<=3000):(encE (entryP x)).length<=40000:=by
 unfold entryP
 rw [if_pos hs]
 split
 .unfold encE
  dsimp only
  rw [if_pos rfl]
  simp only [List.length_append,Zc]
  have:=zd1 x.v
  omega
 .split
  .unfold encE
   dsimp only
   rw [if_neg (by decide),if_pos rfl]
   simp only [List.length_append,Zc]
   have h1:=zlw (x.acts.take 20) (oneP 6 (x.v.take 60)).1 (zdm _ _)
   have h2:=zln x.acts 20
   rw [List.length_take] at h1
   omega
  .unfold encE
   dsimp only
   rw [if_neg (by decide),if_neg (by decide)]
   simp only [List.length_append,Zc,List.length_nil]
   omega
theorem zq8 {k:Int} (h:kIs k=true):hasB (saysB k) 75=kKey k/\hasB (saysB k) 73=kI k/\hasB (saysB k) 74=kJ k/\hasB (saysB k) 78=kN k/\hasB (saysB k) 86=kV k/\hasB (saysB k) 83=kS k:=by
 simp only [kIs,Bool.and_eq_true,decide_eq_true_eq] at h
 have:k=1∨k=2∨k=3∨k=4∨k=5∨k=6∨k=7∨k=8∨k=9:=by omega
 rcases this with rfl|rfl|rfl|rfl|rfl|rfl|rfl|rfl|rfl<;>decide
theorem Qd {α:Type} (b:Bool) (z x:α) (f:List UInt8->Option (α×List UInt8)) (g:List UInt8) (h:b=true->∀r,f (g++r)=some (x,r)) (hz:b=false->x=z) (r:List UInt8):rdIf b z f ((if b=true then g else [])++r)=some (x,r):=by
 cases b with
 |true=>rw [rdIf,if_pos rfl,if_pos rfl];exact h rfl r
 |false=>rw [rdIf,if_neg (by simp),if_neg (by simp),hz rfl];rfl
theorem Kh (k:Int) (h0:0<=k) (h1:k<256) (r:List UInt8):rdN 1 (be (k % 18446744073709551616).toNat 1++r)=some (k.toNat,r):=by
 rw [Xw]
 have e:(k % 18446744073709551616).toNat % 256 ^ 1=k.toNat:=by
  have e8:(256:Nat) ^ 1=256:=by decide
  rw [e8];omega
 rw [e]
theorem zey (k:Int) (h0:0<=k) (h1:k<4294967296) (r:List UInt8):rdN 4 (be (k % 18446744073709551616).toNat 4++r)=some (k.toNat,r):=by
 rw [Xw]
 have e:(k % 18446744073709551616).toNat % 256 ^ 4=k.toNat:=by
  have e8:(256:Nat) ^ 4=4294967296:=by decide
  rw [e8];omega
 rw [e]
structure I64 (n:Int):Prop where
 lo: -9223372036854775808<=n
 hi:n<=9223372036854775807
theorem J9 {n:Int} (h:I64 n) (r:List UInt8):rdI (be (n % 18446744073709551616).toNat 8++r)=some (n,r):=zmp n r h.lo h.hi
theorem zpf (s:St) (hs:s.ok=true) (hi:I64 s.i) (hk:s.key.size<4294967296) (r:List UInt8):rdS (encSt s++r)=some (s,r):=by
 obtain ⟨b,i,key⟩:=s
 dsimp only at hi hk
 unfold St.ok at hs
 cases b with
 | true=>
   simp only [if_true,Bool.and_eq_true,decide_eq_true_eq,List.isEmpty_iff] at hs
   obtain ⟨h1,h2⟩:=hs
   have h3:key= .empty:=Xz h1
   subst h3
   have e:encSt ⟨true,i, .empty⟩=be ((1:Int) % 18446744073709551616).toNat 1++be (i % 18446744073709551616).toNat 8:=rfl
   rw [e,rdS,List.append_assoc,Kh 1 (by decide) (by decide),Option.bind_some]
   have:=J9 hi r
   unfold rdI at this
   have h4:((1:Int).toNat=1):=rfl
   simp only [h4,if_true]
   revert this
   cases rdN 8 (be (i % 18446744073709551616).toNat 8++r) with
   |none=>intro h;cases h
   |some q=>intro h;simp only [Option.bind_some] at h ⊢;injection h with h;injection h with h1 h2;rw [h1,h2]
 | false=>
   simp only [Bool.false_eq_true,if_false,Bool.and_eq_true,beq_iff_eq] at hs
   obtain ⟨rfl,h2⟩:=hs
   have e:encSt ⟨false,0,key⟩=be ((0:Int) % 18446744073709551616).toNat 1++encS key:=rfl
   rw [e,rdS,List.append_assoc,Kh 0 (by decide) (by decide),Option.bind_some]
   have h4:¬((0:Int).toNat=1):=by decide
   simp only [h4,if_false]
   rw [Jo key r hk,Option.bind_some]
theorem zok (p:List St):encP p=p.flatMap encSt:=by
 induction p with
 |nil=>rfl
 |cons s r ih=>simp [encP,ih]
theorem zku (s:St):1<=(encSt s).length:=by
 unfold encSt;split<;>rw [List.length_append,Zc] <;>omega
theorem zfv (p:List St):p.length<=(encP p).length:=by
 induction p with
 |nil=>exact Nat.zero_le _
 |cons s r ih=>rw [encP,List.length_append,List.length_cons];have:=zku s;omega
theorem zld {p:List St} {s:St} (h:s ∈ p):(encSt s).length<=(encP p).length:=by
 induction p with
 |nil=>cases h
 | cons x r ih=>
   rw [encP,List.length_append]
   rcases List.mem_cons.1 h with rfl|h
   .omega
   .have:=ih h;omega
theorem zn9 (s:St) (h:s.list=false):(encSt s).length=1+(4+s.key.size):=by
 unfold encSt;rw [h];simp [Zc,Z0]
structure Cm.Num (c:Cm):Prop where
 i:I64 c.i
 j:I64 c.j
 n:I64 c.n
 v:c.v.Num
 p:∀s ∈ c.path,I64 s.i
theorem zl4 {c:Cm} (h:eqB c.bare ⟨c.k,c.path, .empty,0,0,0,V.none, .empty⟩=true):(kKey c.k=false->c.key= .empty)/\(kI c.k=false->c.i=0)/\(kJ c.k=false->c.j=0)/\(kN c.k=false->c.n=0)/\(kV c.k=false->c.v=V.none)/\(kS c.k=false->c.s= .empty):=by
 have h2:=Z6 h
 rw [Cm.bare] at h2
 injection h2 with a1 a2 a3 a4 a5 a6 a7 a8
 exact ⟨fun e=>by rw [e] at a3;simpa using a3,fun e=>by rw [e] at a4;simpa using a4,fun e=>by rw [e] at a5;simpa using a5,fun e=>by rw [e] at a6;simpa using a6,fun e=>by rw [e] at a7;simpa using a7,fun e=>by rw [e] at a8;simpa using a8⟩
theorem zrg (c:Cm) (hs:cmSound c=true) (hn:c.Num) (hl:(encC c).length<=60000) (r:List UInt8):rdC (encC c++r)=some (c,r):=by
 unfold cmSound at hs
 simp only [Bool.and_eq_true,decide_eq_true_eq] at hs
 obtain ⟨⟨⟨⟨⟨⟨⟨⟨⟨⟨⟨hk,hb⟩,hp⟩,hky⟩,hst⟩,h0i⟩,h0j⟩,_⟩,_⟩,hvs⟩,hdp⟩,hwt⟩:=hs
 obtain ⟨b1,b2,b3,b4,b5,b6⟩:=zl4 hb
 obtain ⟨e1,e2,e3,e4,e5,e6⟩:=zq8 hk
 have hk2:=hk
 simp only [kIs,Bool.and_eq_true,decide_eq_true_eq] at hk2
 unfold pathSound at hp
 simp only [Bool.and_eq_true,decide_eq_true_eq,List.all_eq_true] at hp
 obtain ⟨hp1,hp2⟩:=hp
 have hpl:=zfv c.path
 have hl2:=hl
 unfold encC at hl2
 simp only [List.length_append,Zc] at hl2
 have hkk:((c.k.toNat:Nat):Int)=c.k:=by omega
 have hT:encT c=(if kKey c.k=true then encS c.key else [])++((if kI c.k=true then be (c.i % 18446744073709551616).toNat 8 else [])++((if kJ c.k=true then be (c.j % 18446744073709551616).toNat 8 else [])++((if kN c.k=true then be (c.n % 18446744073709551616).toNat 8 else [])++((if kV c.k=true then encV c.v else [])++(if kS c.k=true then encS c.s else []))))):=by
  rw [encT,e1,e2,e3,e4,e5,e6];simp only [List.append_assoc]
 have hlT:(encT c).length<=60000:=by omega
 rw [hT] at hlT
 simp only [List.length_append] at hlT
 have hkey:kKey c.k=true->c.key.size<4294967296:=fun e=>by
  rw [if_pos e,Z0] at hlT;omega
 have hss:kS c.k=true->c.s.size<4294967296:=fun e=>by
  rw [if_pos e,Z0] at hlT;omega
 have hvv:kV c.k=true->(encV c.v).length<=1000000:=fun e=>by
  rw [if_pos e] at hlT;omega
 have hP:rdL rdS c.path.length (encP c.path++(encT c++r))=some (c.path,encT c++r):=by
  have h:=Ka rdS encSt c.path (fun s hs r=>zpf s (hp2 s hs) (hn.p s hs) (by
   have:=zld hs
   cases hb:s.list with
   |false=>rw [zn9 s hb] at this;omega
   | true=>
     have h3:=hp2 s hs
     unfold St.ok at h3
     rw [hb] at h3
     simp only [if_true,Bool.and_eq_true,List.isEmpty_iff] at h3
     rw [Xz h3.1];decide) r) c.path.length (Nat.le_refl _) (encT c++r)
  rw [List.take_length] at h
  rw [zok];exact h
 rw [encC,rdC]
 simp only [List.append_assoc]
 rw [Kh c.k (by omega) (by omega),Option.bind_some]
 dsimp only
 rw [Jl _ _ _ (by omega) (by simp only [List.length_append];omega),Option.bind_some]
 dsimp only
 rw [hP,Option.bind_some]
 dsimp only
 rw [hkk,e1,e2,e3,e4,e5,e6,hT]
 simp only [List.append_assoc]
 rw [Qd (kKey c.k) .empty c.key rdT (encS c.key) (fun e r=>Jo c.key r (hkey e)) b1,Option.bind_some]
 dsimp only
 rw [Qd (kI c.k) 0 c.i rdI (be (c.i % 18446744073709551616).toNat 8) (fun e r=>J9 hn.i r) b2,Option.bind_some]
 dsimp only
 rw [Qd (kJ c.k) 0 c.j rdI (be (c.j % 18446744073709551616).toNat 8) (fun e r=>J9 hn.j r) b3,Option.bind_some]
 dsimp only
 rw [Qd (kN c.k) 0 c.n rdI (be (c.n % 18446744073709551616).toNat 8) (fun e r=>J9 hn.n r) b4,Option.bind_some]
 dsimp only
 rw [Qd (kV c.k) V.none c.v (rdV 18) (encV c.v) (fun e r=>zbv 18 c.v (by omega) hn.v hvs (hvv e) r) b5,Option.bind_some]
 dsimp only
 rw [Qd (kS c.k) .empty c.s rdT (encS c.s) (fun e r=>Jo c.s r (hss e)) b6,Option.bind_some]
theorem zoo (l:List Cm):encCs l=l.flatMap encC:=by
 induction l with
 |nil=>rfl
 |cons c r ih=>simp [encCs,ih]
theorem zol (c:Cm):1<=(encC c).length:=by
 unfold encC;simp only [List.length_append,Zc];omega
theorem zm0 (l:List Cm):l.length<=(encCs l).length:=by
 induction l with
 |nil=>exact Nat.zero_le _
 |cons c r ih=>rw [encCs,List.length_append,List.length_cons];have:=zol c;omega
theorem zf7 {l:List Cm} {c:Cm} (h:c ∈ l):(encC c).length<=(encCs l).length:=by
 induction l with
 |nil=>cases h
 | cons x r ih=>
   rw [encCs,List.length_append]
   rcases List.mem_cons.1 h with rfl|h
   .omega
   .have:=ih h;omega
structure En.Num (e:En):Prop where
 s0:0<=e.src
 s1:e.src<4294967296
 q0:0<=e.seq
 q1:e.seq<4294967296
 v:e.v.Num
 op:∀c ∈ e.op,c.Num
theorem zh4 (e:En) (hs:enSound e=true) (hn:e.Num) (hl:(encE e).length<=60000) (r:List UInt8):rdE (encE e++r)=some (e,r):=by
 obtain ⟨k,src,seq,v,op⟩:=e
 obtain ⟨s0,s1,q0,q1,nv,nop⟩:=hn
 dsimp only at s0 s1 q0 q1 nv nop
 unfold enSound at hs
 dsimp only at hs
 have hS:((src.toNat:Nat):Int)=src:=by omega
 have hQ:((seq.toNat:Nat):Int)=seq:=by omega
 unfold encE at hl
 simp only [List.length_append,Zc] at hl
 have head:∀(k0:Int),0<=k0->k0<256->∀x:List UInt8,rdE (be (k0 % 18446744073709551616).toNat 1++be (src % 18446744073709551616).toNat 4++be (seq % 18446744073709551616).toNat 4++x++r)=
  (if k0.toNat=1 then (rdV 18 (x++r)).bind fun v=>some (⟨k0.toNat,src,seq,v.1, []⟩,v.2)
   else if k0.toNat=2 then (rdM 4 (x++r)).bind fun n=>(rdL rdC n.1 n.2).bind fun l=>some (⟨k0.toNat,src,seq,V.none,l.1⟩,l.2)
   else some (⟨k0.toNat,src,seq,V.none, []⟩,x++r)):=by
  intro k0 h0 h1 x
  simp only [List.append_assoc]
  rw [rdE,Kh k0 h0 h1,Option.bind_some]
  dsimp only
  rw [zey src s0 s1,Option.bind_some]
  dsimp only
  rw [zey seq q0 q1,Option.bind_some]
  dsimp only
  rw [hS,hQ]
 unfold encE
 dsimp only
 by_cases h1:k=1
 .subst h1
  rw [if_pos rfl] at hs hl ⊢
  simp only [Bool.and_eq_true,beq_iff_eq,List.length_eq_zero_iff] at hs
  obtain ⟨hv,rfl⟩:=hs
  unfold lightB at hv
  simp only [Bool.and_eq_true,decide_eq_true_eq] at hv
  obtain ⟨⟨v1,v2⟩,v3⟩:=hv
  rw [head 1 (by decide) (by decide),if_pos (by decide),zbv 18 v (by omega) nv v1 (by omega) r,Option.bind_some]
  rfl
 rw [if_neg h1] at hs hl ⊢
 by_cases h2:k=2
 .subst h2
  rw [if_pos rfl] at hs hl ⊢
  simp only [Bool.and_eq_true,Bool.not_eq_true',List.any_eq_false,decide_eq_true_eq] at hs
  obtain ⟨⟨hv,hop⟩,hall⟩:=hs
  have hv2:v=V.none:=by simpa [eqv] using hv
  subst hv2
  simp only [List.length_append,Zc] at hl
  have hll:=zm0 op
  have hL:=Ka rdC encC op (fun c hc r=>zrg c (by have:=hall c hc;simpa using this) (nop c hc) (by have:=zf7 hc;omega) r) op.length (Nat.le_refl _) r
  rw [List.take_length] at hL
  rw [head 2 (by decide) (by decide),if_neg (by decide),if_pos (by decide),List.append_assoc,Jl _ _ _ (by omega) (by rw [List.length_append];omega),Option.bind_some]
  dsimp only
  rw [zoo,hL];rfl
 rw [if_neg h2] at hs hl ⊢
 by_cases h3:k=3
 .subst h3
  rw [if_pos rfl] at hs
  simp only [Bool.and_eq_true,beq_iff_eq,List.length_eq_zero_iff] at hs
  obtain ⟨hv,rfl⟩:=hs
  have hv2:v=V.none:=by simpa [eqv] using hv
  subst hv2
  rw [head 3 (by decide) (by decide),if_neg (by decide),if_neg (by decide)]
  rfl
 .rw [if_neg h3] at hs;cases hs
theorem IsSteps.num {w:World} {B:Nat} {p:List St} {a:Option Addr} {n c:Nat} (h:IsSteps w B p a n c):∀s ∈ p,I64 s.i:=by
 intro s hs
 obtain ⟨i,hi,rfl⟩:=List.mem_iff_getElem.1 hs
 obtain ⟨_,_,_,_,b,o,_,h6⟩:=h
 have h7:=(h6 i hi).2
 exact ⟨h7.i0,h7.i1⟩
theorem IsComp.num {w:World} {B:Nat} {x:Cm} {c:CC} (h:IsComp w B x c):x.Num:=by
 cases h with
 |mk c p v hb hp hv=>exact ⟨⟨hb.i0,hb.i1⟩,⟨hb.j0,hb.j1⟩,⟨hb.n0,hb.n1⟩,hv.num,hp.num⟩
theorem IsEntry.num {w:World} {B:Nat} {x:En} {c:EC} (h:IsEntry w B x c):x.Num:=by
 cases h with
 | mk c v l hb hv ho=>
   refine ⟨hb.s0,hb.s1,hb.q0,hb.q1,hv.num,fun y hy=> ?_⟩
   obtain ⟨i,hi,rfl⟩:=List.mem_iff_getElem.1 hy
   obtain ⟨_,_,_,_,b,o,f,_,h6⟩:=ho
   exact (h6 i hi).2.num
structure IsStrs (w:World) (B:Nat) (l:List ByteArray) (a:Option Addr) (n c:Nat):Prop where
 len:n=l.length
 cap:n<=c
 max:c<=9223372036854775807
 few:n<=1466015503701
 at_:∃b o,(0<n->a=some ⟨b,o,none⟩/\b<B)/\∀i (h:i<l.length),w.cell? ⟨b,o+i,none⟩=some (.string l[i])/\l[i].size<=140737488355328
theorem IsStrs.keep {w w':World} {B:Nat} {l:List ByteArray} {a:Option Addr} {n c:Nat} (h:IsStrs w B l a n c) (hb:Below B w w'):IsStrs w' B l a n c:=by
 obtain ⟨h1,h2,h3,h4,b,o,h5,h6⟩:=h
 exact ⟨h1,h2,h3,h4,b,o,h5,fun i hi=>⟨Zd hb (h6 i hi).1 (h5 (by omega)).2,(h6 i hi).2⟩⟩
theorem IsStrs.more {w:World} {B B':Nat} {l:List ByteArray} {a:Option Addr} {n c:Nat} (h:IsStrs w B l a n c) (hB:B<=B'):IsStrs w B' l a n c:=by
 obtain ⟨h1,h2,h3,h4,b,o,h5,h6⟩:=h
 exact ⟨h1,h2,h3,h4,b,o,fun hn=>⟨(h5 hn).1,by have:=(h5 hn).2;omega⟩,h6⟩
theorem IsStrs.later_ {w w':World} {l:List ByteArray} {a:Option Addr} {n c:Nat} (h:IsStrs w w.heap.size l a n c) (hb:Below w.heap.size w w'):IsStrs w' w'.heap.size l a n c:=(h.keep hb).more hb.size
theorem IsStrs.nil (w:World) (B:Nat):IsStrs w B [] none 0 0:=⟨rfl,Nat.le_refl _,by omega,by omega,0,0,fun h=>by omega,fun i hi=>by cases hi⟩
theorem IsStrs.get {w:World} {B:Nat} {l:List ByteArray} {a:Option Addr} {n c k:Nat} (h:IsStrs w B l a n c) (hk:k<n):∃(b o:Nat) (kl:k<l.length),a=some ⟨b,o,none⟩/\b<B/\w.cell? ⟨b,o+k,none⟩=some (.string l[k])/\l[k].size<=140737488355328:=by
 obtain ⟨h1,h2,h3,h4,b,o,h5,h6⟩:=h
 exact ⟨b,o,by omega,(h5 (by omega)).1,(h5 (by omega)).2,h6 k (by omega)⟩
theorem zcv (a b:ByteArray):eqB a b=(a.toList==b.toList):=by
 apply Bool.eq_iff_iff.2
 rw [beq_iff_eq]
 exact ⟨fun h=>by rw [Z6 h],fun h=>Zy (Yv h)⟩
set_option maxRecDepth 100000 in
theorem zgz (l l':List ByteArray) (w:World) (a a':Option Addr) (n m c c':Nat) (h:IsStrs w w.heap.size l a n c) (h':IsStrs w w.heap.size l' a' m c'):
 Calls Tryz.prog 140 #[.slice a n c, .slice a' m c'] w fun e w'=>e= .returned (.bool (eqB l l'))/\Below w.heap.size w w':=by
 have k1:=h.max;have k2:=h.few;have k3:=h'.max;have k4:=h'.few
 have HLn:=qh h.len;have HLm:=qh h'.len
 by_cases e:n=m
 case neg=>
  go_enter Tryz.func140,Tryz.ntmps140
  have f1:((n:Int) !=(m:Int))=true:=by simp;omega
  go_wp2_with fail
  go_ret
  exact ⟨Zb (Zu (fun h=>e (by rw [HLn.out,HLm.out,h]))).symm,Below.refl _ _⟩
 subst e
 go_enter Tryz.func140,Tryz.ntmps140
 go_wp2_with fail
 go_loopw [13] (fun i wr=>∃k:Nat,k<=n/\i= .int .i64 k/\Hid (∀j,j<k->l[j]? =l'[j]?)/\Below w.heap.size w wr) (fun i _=>n - (intOf i).toNat)
 case atStart=>exact ⟨0,Nat.zero_le _,rfl,fun j hj=>by omega,Below.refl _ _⟩
 case round=>
  obtain ⟨k,hk,rfl,HJ,hB⟩:=hrel
  by_cases hlt:k<n
  .obtain ⟨b,o,kl,rfl,hb,x1,_⟩:=h.get hlt
   obtain ⟨b',o',kl',rfl,hb',x2,_⟩:=h'.get hlt
   have x1:=Za (Zd hB x1 hb)
   have x2:=Za (Zd hB x2 hb')
   obtain ⟨bx,hx⟩:∃bx,(l[k].toList==(l'[k]'kl').toList)=bx:=⟨_,rfl⟩
   have HX:Hid (eqB l[k] (l'[k]'kl')=bx):=by show _=_;rw [zcv,hx]
   clear h h'
   cases bx with
   | true=>
     go_wp2_with fail
     refine Zh (by kernel_rfl) (by kernel_rfl) ?_
     repeat (go_big_quiet_step (fail))
     refine wpQuiet_nil ?_
     intro _ hw'
     obtain ⟨pq,hw''⟩:=hw'
     subst hw''
     clear x1 x2 hx
     have hB2:=hB.on (Ze wr pq) hB.size
     go_wp2_with fail
     go_roundw
     case rel=>exact ⟨k+1,by omega,by go_num,Qq HJ kl kl' HX.out,hB2⟩
     case measure=>simp [intOf];omega
   | false=>
     go_wp2_with fail
     refine Zh (by kernel_rfl) (by kernel_rfl) ?_
     repeat (go_big_quiet_step (fail))
     refine wpQuiet_nil ?_
     intro _ hw'
     obtain ⟨pq,hw''⟩:=hw'
     subst hw''
     clear x1 x2 hx
     have hB2:=hB.on (Ze wr pq) hB.size
     go_wp2_with fail
     go_ret
     exact ⟨Zb (Zu (fun h=>by subst h;exact Yy HX.out rfl)).symm,hB2⟩
  .go_wp2_with fail
   go_ret
   exact ⟨Zb (Zy (Xo HJ.out (by have:=HLn.out;omega) (by have:=HLm.out;omega))).symm,hB⟩
noncomputable def badF (l:List ByteArray) (i:Nat):Bool:=
 match l[i]? with
 |none=>false
 | some f=> !Lib.validD f.data.toList||(match i with
   |0=>false
   | j+1=>match l[j]? with
     |none=>false
     |some g=>Op.bytesLess f.toList g.toList||(f.toList==g.toList))
noncomputable def fieldsSound (l:List ByteArray):Bool:= !(List.range l.length).any (badF l) && decide (l.length<=16)
theorem zag {l:List ByteArray} (h:0<l.length):badF l 0= !Lib.validD l[0].data.toList:=by simp [badF,h]
theorem Kq {l:List ByteArray} {j:Nat} (h:j+1<l.length):badF l (j+1)=(!Lib.validD l[j+1].data.toList||(Op.bytesLess l[j+1].toList (l[j]'(by omega)).toList||(l[j+1].toList==(l[j]'(by omega)).toList))):=by
 simp [badF,h,show j<l.length by omega]
theorem zer {l:List ByteArray} {k:Nat} (hk:k<l.length) (h:badF l k=true):fieldsSound l=false:=by
 have:(List.range l.length).any (badF l)=true:=List.any_eq_true.2 ⟨k,List.mem_range.2 hk,h⟩
 simp [fieldsSound,this]
theorem Q1 {l:List ByteArray} {k:Nat} (hk:k=l.length) (h:∀j,j<k->badF l j=false):fieldsSound l=decide (l.length<=16):=by
 have:(List.range l.length).any (badF l)=false:=by
  rw [List.any_eq_false]
  intro x hx
  rw [h x (by rw [hk];exact List.mem_range.1 hx)];simp
 simp [fieldsSound,this]
set_option maxRecDepth 100000 in
theorem zp9 (l : List ByteArray) (w : World) (hT : Tabs w) (a:Option Addr) (n c:Nat) (h:IsStrs w w.heap.size l a n c):
 Calls Tryz.prog 91 #[.slice a n c] w fun e w'=>e= .returned (.bool (fieldsSound l))/\Below w.heap.size w w':=by
 have k1:=h.max;have k2:=h.few
 have HLn:=qh h.len
 obtain ⟨R,hR⟩:∃R,fieldsSound l=R:=⟨_,rfl⟩
 rw [hR]
 have HR:=qh hR
 clear hR
 go_enter Tryz.func91,Tryz.ntmps91
 go_wp2_with fail
 go_loopw [7] (fun i wr=>∃k:Nat,k<=n/\i= .int .i64 k/\Hid (∀j,j<k->badF l j=false)/\Below w.heap.size w wr) (fun i _=>n - (intOf i).toNat)
 case atStart=>exact ⟨0,Nat.zero_le _,rfl,fun j hj=>by omega,Below.refl _ _⟩
 case round=>
  obtain ⟨k,hk,hi,HJ,hB⟩:=hrel
  by_cases hlt:k<n
  .obtain ⟨b,o,kl,ea,hb,g1,gs⟩:=h.get hlt
   have g1:=Zd hB g1 hb
   obtain ⟨vk,hvk⟩:∃vk,Lib.validD l[k].data.toList=vk:=⟨_,rfl⟩
   have HVC:Hid (∀W,Tabs W->Calls Tryz.prog 66 #[.string l[k]] W fun e w'=>e= .returned (.bool vk)/\Below W.heap.size W w'):=fun W hW=>by rw [<-hvk];exact Z8 l[k] W gs hW
   by_cases hk0:k=0
   .subst hk0
    subst hi
    have HBD:Hid (badF l 0= !vk):=by show _=_;rw [zag kl,hvk]
    clear h hvk gs
    subst ea
    rw [Nat.add_zero] at g1
    cases vk with
    | false=>
      go_wp2_with (go_at_call 66;(with_reducible refine (HVC.out _ (hT.below hB)).mono ?_);rintro e w1 ⟨rfl,hb1⟩)
      go_ret
      exact ⟨Zb (by rw [<-HR.out,zer kl (by rw [HBD.out];rfl)]),hB.on hb1 hB.size⟩
    | true=>
      go_wp2_with (go_at_call 66;(with_reducible refine (HVC.out _ (hT.below hB)).mono ?_);rintro e w1 ⟨rfl,hb1⟩)
      go_roundw
      case rel => exact ⟨1, by omega, by go_num, fun j hj => (by obtain rfl:j=0:=by omega
                                                                 rw [HBD.out];rfl),hB.on hb1 hB.size⟩
      case measure=>simp [intOf];omega
   .obtain ⟨j,rfl⟩:∃j,k=j+1:=⟨k - 1,by omega⟩
    have hi2:=hi.trans (show Value.int .i64 ((j+1:Nat):Int)= .int .i64 ((j:Int)+1) by go_num)
    clear hi hk0
    subst hi2
    obtain ⟨b',o',jl,ea',hb',g0,_⟩:=h.get (show j<n by omega)
    obtain ⟨b1,h1⟩:∃b1,Op.bytesLess l[j+1].toList l[j].toList=b1:=⟨_,rfl⟩
    obtain ⟨b2,h2⟩:∃b2,(l[j+1].toList==l[j].toList)=b2:=⟨_,rfl⟩
    have HBD:Hid (badF l (j+1)=(!vk||(b1||b2))):=by show _=_;rw [Kq kl,hvk,h1,h2]
    clear h hvk gs
    subst ea
    cases ea'
    skip
    rcases bcT vk (bcF b1 (bcF b2 trivial)) with rfl|⟨rfl,(rfl|⟨rfl,(rfl|⟨rfl,_⟩)⟩)⟩
    iterate 3
     (go_wp2_with (go_at_call 66;(with_reducible refine (HVC.out _ (hT.below hB)).mono ?_);rintro e w1 ⟨rfl,hb1⟩;have g3:=Zd (hB.on hb1 hB.size) g0 hb)
      go_ret
      exact ⟨Zb (by rw [<-HR.out,zer kl (by rw [HBD.out];simp)]),hB.on hb1 hB.size⟩)
    go_wp2_with (go_at_call 66;(with_reducible refine (HVC.out _ (hT.below hB)).mono ?_);rintro e w1 ⟨rfl,hb1⟩;have g3:=Zd (hB.on hb1 hB.size) g0 hb)
    go_roundw
    case rel => exact ⟨j + 1 + 1, by omega, by go_num, fun i hi =>(if e:i<j+1 then HJ.out i e else by
                                                                 obtain rfl:i=j+1:=by omega
                                                                 rw [HBD.out];rfl),hB.on hb1 hB.size⟩
    case measure=>simp [intOf];omega
  .have HE:Hid (R=decide (n<=16)):=by show _=_;rw [<-HR.out,Q1 (by have:=HLn.out;omega) HJ.out, <-HLn.out]
   clear h
   by_cases h16:n<=16
   .go_wp2_with fail
    go_ret
    exact ⟨Zb (by rw [HE.out];simp;omega),hB⟩
   .go_wp2_with fail
    go_ret
    exact ⟨Zb (by rw [HE.out];simp;omega),hB⟩
end Go.Proofs.YtfoahkbnheijcaaGreatDoor
