/- Walks. -/
import Derived.Test.YtbgheehjfnoiiaaGreatDoorIu28
import Derived.Test.YtbgheehjfnoiiaaGreatDoorIu30
import Derived.Test.YtbgheehjfnoiiaaGreatDoorIu31
namespace Go.Proofs.YtbgheehjfnoiiaaGreatDoor
open Go.RowKit
set_option maxRecDepth 100000
set_option maxHeartbeats 8000000
def sliceN:Value->Nat
 | .slice _ n _=>n
 |_=>0
theorem IsSteps.take {w:World} {B:Nat} {l:List St} {a:Option Addr} {n c:Nat} (h:IsSteps w B l a n c) (k:Nat) (hk:k<=n):IsSteps w B (l.take k) a k c:=by obtain ⟨h1,h2,h3,h4,b,o,h5,h6⟩:=h;refine ⟨by rw [zzd];omega,by omega,h3,by omega,b,o,fun hn=>h5 (by omega),fun i hi=> ?_⟩;rw [zzd] at hi;rw [List.getElem_take];exact h6 i (by omega)
theorem Qi {W W':World} {S S':Nat->Prop} {B:Nat} {p:List St} {a:Option Addr} {n c:Nat} (h:IsSteps (only S W) B p a n c) (hB:B=W.heap.size) (hz:W.heap.size<=W'.heap.size) (hs:∀k,S k->k<W.heap.size->S' k/\W'.heap[k]? =W.heap[k]?):IsSteps (only S' W') W'.heap.size p a n c:=by subst hB;exact (h.sub (Zc hs)).more hz
theorem Zy {W W':World} {S S':Nat->Prop} {B:Nat} {x:V} {c:VC} (h:IsVal (only S W) B x c) (hB:B=W.heap.size) (hz:W.heap.size<=W'.heap.size) (hs:∀k,S k->k<W.heap.size->S' k/\W'.heap[k]? =W.heap[k]?):IsVal (only S' W') W'.heap.size x c:=by subst hB;exact (h.sub (Zc hs)).more hz
theorem GetPost.any {w w':World} {r:Option V} {e:Ending} (h:GetPost w r e w'):∃(c:VC) (i:Int),e= .returned (.tuple #[.agg #[.int .u8 c.k, .int .i64 c.n, .string c.s, .slice c.la c.ll c.lc, .slice c.oa c.ol c.oc], .int .i64 i])/\IsVal (only (fun b=>w.heap.size<=b) w') w'.heap.size (r.getD V.none) c/\uB w w':=by
 delta uB;obtain ⟨h1,h2⟩:=h
 cases r with
 |none=>exact ⟨vzero,30,h1,Zr _ _,h2⟩
 |some x=>obtain ⟨c,e,hI⟩:=h1;exact ⟨c,0,e,hI,h2⟩
structure OH (w wr:World) (c:VC) (a:AC) (xb:Nat) (x:V) (cx:VC):Prop where
 v:BC wr w.heap.size (vcells c)
 a:BC wr (w.heap.size+1) (acells a)
 r:BC wr (w.heap.size+1+1) (ccells czero)
 bx:BC wr xb (vcells cx)
 val:IsVal (only (fun b=>b≠xb) wr) wr.heap.size x cx
 lo:w.heap.size+3<=xb
 below:Below w.heap.size w wr
structure OH0 (w W:World) (c:VC) (a:AC):Prop where
 v:BC W w.heap.size (vcells c)
 a:BC W (w.heap.size+1) (acells a)
 r:BC W (w.heap.size+1+1) (ccells czero)
 below:Below w.heap.size w W
theorem OH0.next {w W W':World} {c:VC} {a:AC} {B:Nat} (h:OH0 w W c a) (hb:Below B W W') (hB:w.heap.size+3<=B):OH0 w W' c a:=
 ⟨h.v.keep hb (by omega),h.a.keep hb (by omega),h.r.keep hb (by omega),h.below.trans (hb.mono (by omega))⟩
theorem OH0.start (w:World) (x:VC) (a:AC) (t1 t2 t3:TypeId):OH0 w (((w.alloc (.cells #[.int .u8 x.k, .int .i64 x.n, .string x.s, .slice x.la x.ll x.lc, .slice x.oa x.ol x.oc] t1)).alloc (.cells #[.slice a.pa a.pl a.pc, .int .u8 a.k, .int .i64 a.i, .int .i64 a.j, .int .i64 a.n, .string a.s, .slice a.va a.vl a.vc] t2)).alloc (.cells #[.int .u8 0, .slice none 0 0, .string { data:= #[] }, .int .i64 0, .int .i64 0, .int .i64 0, .int .u8 0, .int .i64 0, .string { data:= #[] }, .slice none 0 0, .slice none 0 0, .string { data:= #[] }] t3)) x a:=by
 obtain ⟨w1,hw1⟩:∃w1,w.alloc (.cells (uV x) t1)=w1:=⟨_,rfl⟩;have s1:w1.heap.size=w.heap.size+1:=by rw [<-hw1,zzk]
 have b1:uB w w1:=by rw [<-hw1];exact (zzc _ _).alloc (zza _) _
 have c1:BC w1 w.heap.size (vcells x):=by rw [<-hw1];exact BC.start w (uV x) t1
 rw [hw1];obtain ⟨w2,hw2⟩:∃w2,w1.alloc (.cells (uA a) t2)=w2:=⟨_,rfl⟩;have s2:w2.heap.size=w.heap.size+1+1:=by rw [<-hw2,zzk,s1]
 have b2:uB w1 w2:=by rw [<-hw2];exact (zzc _ _).alloc (zza _) _
 have c2:=BC.start w1 (uA a) t2;rw [hw2,s1] at c2;rw [hw2];have b3:uB w2 (w2.alloc (.cells #[.int .u8 0, .slice none 0 0, .string { data:= #[] }, .int .i64 0, .int .i64 0, .int .i64 0, .int .u8 0, .int .i64 0, .string { data:= #[] }, .slice none 0 0, .slice none 0 0, .string { data:= #[] }] t3)):=(zzc _ _).alloc (zza _) _;have c3:=BC.start w2 #[.int .u8 0, .slice none 0 0, .string { data:= #[] }, .int .i64 0, .int .i64 0, .int .i64 0, .int .u8 0, .int .i64 0, .string { data:= #[] }, .slice none 0 0, .slice none 0 0, .string { data:= #[] }] t3;rw [s2] at c3;exact ⟨(c1.keep b2 (by omega)).keep b3 (by omega),c2.keep b3 (by omega),c3,(b1.trans (b2.mono (by omega))).trans (b3.mono (by omega))⟩
theorem OH.start {w W W':World} {c:VC} {a:AC} {x:V} {cx:VC} {t:TypeId} (h:OH0 w W c a) (hz:w.heap.size+3<=W.heap.size) (hI:IsVal (only (fun b=>W.heap.size<=b) W') W'.heap.size x cx) (hb:uB W W'):OH w (W'.alloc (.cells #[.int .u8 cx.k, .int .i64 cx.n, .string cx.s, .slice cx.la cx.ll cx.lc, .slice cx.oa cx.ol cx.oc] t)) c a W'.heap.size x cx:=by have h1:=h.next hb hz;have hb2:uB W' (W'.alloc (.cells (uV cx) t)):=(zzc _ _).alloc (zza _) _;have h2:=h1.next hb2 (by have:=hb.size;omega);exact ⟨h2.v,h2.a,h2.r,BC.start _ _ _,Zy hI rfl hb2.size fun k _ hl=>⟨by omega,hb2.block k hl⟩,by have:=hb.size;omega,h2.below⟩
theorem OH.next {w W W':World} {c:VC} {a:AC} {xb:Nat} {x:V} {cx:VC} (h:OH w W c a xb x cx) (hb:uB W W'):OH w W' c a xb x cx:=
 ⟨h.v.keep hb h.v.lt,h.a.keep hb h.a.lt,h.r.keep hb h.r.lt,h.bx.keep hb h.bx.lt,Zy h.val rfl hb.size fun k hk hl=>⟨hk,hb.block k hl⟩,h.lo,h.below.trans (hb.mono h.below.size)⟩
theorem OH.round {w W W':World} {c:VC} {a:AC} {xb:Nat} {x y:V} {cx cy:VC} (h:OH w W c a xb x cx) (hb:uB W W') (hI:IsVal (only (fun b=>W.heap.size<=b) W') W'.heap.size y cy):OH w (setV W' xb 0 cy) c a xb y cy:=by have h1:=h.next hb;have hl:=h.lo;have hxl:=h.bx.lt;have st:=Zh W' xb 0 cy;exact ⟨h1.v.next st (by omega),h1.a.next st (by omega),h1.r.next st (by omega),Zx h1.bx cy,Zy hI rfl st.size fun k hk hl=>⟨by omega,st.block k hl (by omega)⟩,hl,Below.set5' h1.below (by omega) _ _ _ _ _⟩
def setC (W:World) (b:Nat) (d:CC):World:=((((((((((((W.setCell ⟨b,0,none⟩ (.int .u8 d.k)).setCell ⟨b,1,none⟩ (.slice d.pa d.pl d.pc)).setCell ⟨b,2,none⟩ (.string d.key)).setCell ⟨b,3,none⟩ (.int .i64 d.i)).setCell ⟨b,4,none⟩ (.int .i64 d.j)).setCell ⟨b,5,none⟩ (.int .i64 d.n)).setCell ⟨b,6,none⟩ (.int .u8 d.v.k)).setCell ⟨b,7,none⟩ (.int .i64 d.v.n)).setCell ⟨b,8,none⟩ (.string d.v.s)).setCell ⟨b,9,none⟩ (.slice d.v.la d.v.ll d.v.lc)).setCell ⟨b,10,none⟩ (.slice d.v.oa d.v.ol d.v.oc)).setCell ⟨b,11,none⟩ (.string d.s))
theorem Yk (W:World) (b:Nat) (d:CC):RStep W (setC W b d) b:=Xu W b d
def OnePost (w:World) (r:Option Cm) (e:Ending) (w':World):Prop:=
 (∃cc:CC,match r with
   |some x=>e= .returned (.tuple #[.agg #[.int .u8 cc.k, .slice cc.pa cc.pl cc.pc, .string cc.key, .int .i64 cc.i, .int .i64 cc.j, .int .i64 cc.n, .int .u8 cc.v.k, .int .i64 cc.v.n, .string cc.v.s, .slice cc.v.la cc.v.ll cc.v.lc, .slice cc.v.oa cc.v.ol cc.v.oc, .string cc.s], .int .i64 1])/\IsComp (only (fun b=>w.heap.size<=b) w') w'.heap.size x cc
   |none=>e= .returned (.tuple #[.agg #[.int .u8 cc.k, .slice cc.pa cc.pl cc.pc, .string cc.key, .int .i64 cc.i, .int .i64 cc.j, .int .i64 cc.n, .int .u8 cc.v.k, .int .i64 cc.v.n, .string cc.v.s, .slice cc.v.la cc.v.ll cc.v.lc, .slice cc.v.oa cc.v.ol cc.v.oc, .string cc.s], .int .i64 0])/\∃x:Cm,x.v.weight<=1/\x.s.size=0/\IsComp (only (fun b=>w.heap.size<=b) w') w'.heap.size x cc)/\Below w.heap.size w w'
theorem zc0 {tmps:Array Value} {W:World} {b:Nat} {d:CC} {y:Value} (ht:tmps[4]? =some (.pointer (some ⟨b,0,none⟩))) (hy:tmps[5]? =some y) (h:BC W b (ccells d)):
 (results Tryz.f32 tmps).run Tryz.prog W= .ok (.tuple #[.agg #[.int .u8 d.k, .slice d.pa d.pl d.pc, .string d.key, .int .i64 d.i, .int .i64 d.j, .int .i64 d.n, .int .u8 d.v.k, .int .i64 d.v.n, .string d.v.s, .slice d.v.la d.v.ll d.v.lc, .slice d.v.oa d.v.ol d.v.oc, .string d.s],y]) W:=by
 obtain ⟨r0,r1,r2,r3,r4,r5,r6,r7,r8,r9,r10,r11⟩:=row12 h.at_;simp [results,Tryz.results32,go_sem,ht,hy,r0,r1,r2,r3,r4,r5,r6,r7,r8,r9,r10,r11]
theorem zm0 {w W:World} {d:CC} {p:List St} {x:V} {A:Act} (hr:BC W (w.heap.size+1+1) (ccells czero)) (hp:IsSteps (only (fun b=>w.heap.size+3<=b) W) W.heap.size p d.pa d.pl d.pc) (hx:IsVal (only (fun b=>w.heap.size+3<=b) W) W.heap.size x d.v) (hb:uB w W) (hd:d.Bnd) (ht:A.tmps[4]? =some (.pointer (some ⟨w.heap.size+1+1,0,none⟩))) (hy:A.tmps[5]? =some (.int .i64 1)) (hA:A.defers= []):
 bodyPost Tryz.prog Tryz.f32 (OnePost w (some (cmOf p x d))) .ret A (setC W (w.heap.size+1+1) d):=by
 have st:=Yk W (w.heap.size+1+1) d;refine ⟨hA,_,zc0 ht hy (Zp hr d),⟨d,rfl, ?_⟩,Below.setC hb (by omega) d⟩;exact .mk d p x hd (Qi hp rfl st.size fun k hk hl=>⟨by omega,st.block k hl (by omega)⟩) (Zy hx rfl st.size fun k hk hl=>⟨by omega,st.block k hl (by omega)⟩)
theorem zo9 {w W:World} {d:CC} {p:List St} {A:Act} (hr:BC W (w.heap.size+1+1) (ccells czero)) (hp:IsSteps (only (fun b=>w.heap.size+3<=b) W) W.heap.size p d.pa d.pl d.pc) (hx:IsVal (only (fun b=>w.heap.size+3<=b) W) W.heap.size V.none d.v) (hd:d.Bnd) (hs:d.s.size=0) (hb:uB w W) (ht:A.tmps[4]? =some (.pointer (some ⟨w.heap.size+1+1,0,none⟩))) (hy:A.tmps[5]? =some (.int .i64 0)) (hA:A.defers= []):
 bodyPost Tryz.prog Tryz.f32 (OnePost w none) .ret A (setC W (w.heap.size+1+1) d):=by
 have st:=Yk W (w.heap.size+1+1) d;refine ⟨hA,_,zc0 ht hy (Zp hr d),⟨d,rfl,cmOf p V.none d,by simp [cmOf,V.none,V.weight,weightL,weightO],hs, ?_⟩,Below.setC hb (by omega) d⟩;exact .mk d p V.none hd (Qi hp rfl st.size fun k hk hl=>⟨by omega,st.block k hl (by omega)⟩) (Zy hx rfl st.size fun k hk hl=>⟨by omega,st.block k hl (by omega)⟩)
theorem IsB.later6 {w w':World} {a:Option Addr} {n c:Nat} {bs:List UInt8} (h:IsB w w.heap.size a n c bs) (hb:uB w w'):IsB w' w'.heap.size a n c bs:=by obtain ⟨h1,h2,h3,b,o,h5,h6⟩:=h.keep hb;exact ⟨h1,h2,h3,b,o,fun h=>⟨(h5 h).1,zzj (h5 h).2 hb.size⟩,h6⟩
theorem zmn {w:World} {B:Nat} {v:V} {c:VC} (h:IsVal w B v c):v.kd=c.k:=by obtain ⟨k,n,s,l,o,rfl⟩:=v.eta;exact h.lists.1.symm
def pathC (pa:Option Addr) (k pc:Nat):CC:=⟨0,pa,k,pc, .empty,0,0,0,vzero, .empty⟩
theorem Jf:ByteArray.empty.size<=140737488355328:=by decide
theorem Jt (pa:Option Addr) (k pc:Nat):(pathC pa k pc).Bnd:=
 ⟨by simp [pathC],by simp [pathC],by simp [pathC],by simp [pathC],by simp [pathC],by simp [pathC],by simp [pathC],by simp [pathC],Jf,Jf⟩
theorem Qj (x:Int) (n:Nat) (hn:n<=1466015503701) (h0:0<n):0<=max x 0 % (n:Int)/\max x 0 % (n:Int)<n:=⟨Int.emod_nonneg _ (by omega),Int.emod_lt_of_pos _ (by omega)⟩
theorem zkw {n:Nat} (hn:n<=1000000000000) {a:AC} {c:CC} (hc:c.Bnd):(textA n a c).Bnd:=by
 obtain ⟨k0,k1,i0,i1,j0,j1,n0,n1,ks,ss⟩:=hc;unfold textA;split
 .rename_i h;have hi:=Qj a.i n (by omega) h.1;have hj0:0<=max a.j 0 % ((n:Int) - max a.i 0 % n):=Int.emod_nonneg _ (by omega);have hj1:max a.j 0 % ((n:Int) - max a.i 0 % n)<(n:Int) - max a.i 0 % n:=Int.emod_lt_of_pos _ (by omega);exact ⟨by dsimp only;omega,by dsimp only;omega,by dsimp only;omega,by dsimp only;omega,j0,j1,by dsimp only;omega,by dsimp only;omega,ks,Jf⟩
 .have hi:=Qj a.i (n+1) (by omega) (by omega)
  push_cast at hi
  have h1:=Xl a.s;refine ⟨by dsimp only;omega,by dsimp only;omega,by dsimp only;omega,by dsimp only;omega,j0,j1,n0,n1,ks, ?_⟩;show ({ data:= #[120] } ++plainS a.s:ByteArray).size<=_;rw [ByteArray.size_append];have:({ data:= #[120] } :ByteArray).size=1:=rfl;omega
theorem zki {n:Nat} {k:Int} :4<=listK n k/\listK n k<=7:=by unfold listK;split<;>omega
theorem zin {n:Nat} (hn:n<=1466015503700) {a:AC} {c:CC} (hc:c.Bnd) (cv:VC):(listA n a c cv).Bnd:=by
 obtain ⟨k0,k1,i0,i1,j0,j1,n0,n1,ks,ss⟩:=hc;have hk:=zki (n:=n) (k:=a.k);unfold listA;have hi: -9223372036854775808<=(if listK n a.k=4 then max a.i 0 % ((n:Int)+1) else max a.i 0 % n)/\(if listK n a.k=4 then max a.i 0 % ((n:Int)+1) else max a.i 0 % n)<=9223372036854775807:=by
  split
  .have:=Qj a.i (n+1) (by omega) (by omega);push_cast at this;omega
  .rename_i h;have hn0:0<n:=by
    rcases Nat.eq_zero_or_pos n with h0|h0
    .exact absurd (by rw [listK,if_pos h0]) h
    .exact h0
   have:=Qj a.i n (by omega) hn0;omega
 have hj: -9223372036854775808<=(if listK n a.k=7 then max a.j 0 % (n:Int) else c.j)/\(if listK n a.k=7 then max a.j 0 % (n:Int) else c.j)<=9223372036854775807:=by
  split
  .rename_i h;have hn0:0<n:=by
    rcases Nat.eq_zero_or_pos n with h0|h0
    .rw [listK,if_pos h0] at h;omega
    .exact h0
   have:=Qj a.j n (by omega) hn0;omega
  .exact ⟨j0,j1⟩
 exact ⟨by dsimp only;omega,by dsimp only;omega,hi.1,hi.2,hj.1,hj.2,n0,n1,ks,ss⟩
theorem zl2 {w:World} {B:Nat} {o:List (ByteArray×V)} {oa:Option Addr} {ol oc:Nat} (ho:IsFields w B o oa ol oc) {a:AC} {c:CC} (hc:c.Bnd) (cv:VC):(fieldA o a c cv).Bnd:=by
 obtain ⟨k0,k1,i0,i1,j0,j1,n0,n1,ks,ss⟩:=hc;have hp:=Xl a.s;have hk:(fieldKey o a).size<=140737488355328:=by
  unfold fieldKey;split
  .rename_i h;have hi:=Qj a.i o.length (by have:=ho.few;have:=ho.len;omega) h.1;have hlt:(max a.i 0 % (o.length:Int)).toNat<ol:=by rw [ho.len];omega
   obtain ⟨_,_,_,hq,_,_,_,hs,_,_⟩:=ho.get hlt;simp only [zzb,zzg hq,Option.getD_some];exact hs
  .omega
 unfold fieldA;refine ⟨?_, ?_,i0,i1,j0,j1,n0,n1,hk,ss⟩
 .dsimp only;split<;>omega
 .dsimp only;split<;>omega
theorem PGetPost.gen {w:World} {v:V} {p:List St} {e:Ending} {w':World} (h:PGetPost w v p e w'):∃(d:VC) (er:Int),e= .returned (.tuple #[.agg #[.int .u8 d.k, .int .i64 d.n, .string d.s, .slice d.la d.ll d.lc, .slice d.oa d.ol d.oc], .int .u16 er])/\Hid ((getP v p=none/\er=30)∨∃x,getP v p=some x/\er=0/\Whole w' w.heap.size x d)/\uB w w':=by
 delta uB;obtain ⟨hb,⟨rfl,hn⟩|⟨x,d,rfl,hg,hW⟩⟩:=h
 .exact ⟨vzero,30,rfl,qh (.inl ⟨hn,rfl⟩),hb⟩
 .exact ⟨d,0,rfl,qh (.inr ⟨x,hg,rfl,hW⟩),hb⟩
theorem Qk (w:World) (vk vn:Int) (vs:ByteArray) (la:Option Addr) (ll lc:Nat) (oa:Option Addr) (ol oc:Nat) (v:V) (hv:IsVal w w.heap.size v ⟨vk,vn,vs,la,ll,lc,oa,ol,oc⟩) (hw:v.weight<=1000000000000) (p:List St) (xv:V) (cc:CC) (hcb:cc.Bnd) (hp:IsSteps w w.heap.size p cc.pa cc.pl cc.pc) (hxv:IsVal w w.heap.size xv cc.v) (hxw:xv.weight<=4611686018427387904) (hT:Tabs w):
 uP 51 #[.agg (uU vk vn vs la ll lc oa ol oc), .agg (uC cc)] w fun e w'=>e= .returned (.int .u16 (checkP v ⟨cc.k,p,cc.key,cc.i,cc.j,cc.n,xv,cc.s⟩))/\uB w w':=by
 delta uU uC uB uP;have HSD:Hid (∀W,uB w W->uP 54 #[.agg (uC cc)] W fun e w'=>e= .returned (.bool (cmSound ⟨cc.k,p,cc.key,cc.i,cc.j,cc.n,xv,cc.s⟩))/\uB W w'):=fun W hW=>zd0 _ W (hT.below hW) cc (.mk cc p xv hcb (hp.later_ hW) (hxv.later_ hW)) (by show xv.weight<=_;omega);have HGT:Hid (∀W,uB w W->uP 52 #[.agg (uU vk vn vs la ll lc oa ol oc), .slice cc.pa cc.pl cc.pc] W (PGetPost W v p)):=fun W hW=>X6 W v ⟨vk,vn,vs,la,ll,lc,oa,ol,oc⟩ p cc.pa cc.pl cc.pc (hv.later_ hW) (hp.later_ hW);have HKD:Hid (∀W x (d:VC),uB w W->IsVal W W.heap.size x d->getP v p=some x->uP 91 #[.agg (uV d), .agg (uC cc)] W fun e w'=>e= .returned (.int .u16 (kindsP x cc.k cc.i cc.j cc.n cc.key))/\uB W w'):=fun W x d hW hI hg=>by have h1:=Z0 p hg;have h2:=x.str_weight.1;have h3:=(X1 hI).1;exact zjp W d.k d.n d.s d.la d.ll d.lc d.oa d.ol d.oc x hI (by rw [<-h3];omega) cc hcb
 obtain ⟨sd,hsd⟩:∃sd,cmSound ⟨cc.k,p,cc.key,cc.i,cc.j,cc.n,xv,cc.s⟩=sd:=⟨_,rfl⟩;rw [hsd] at HSD;obtain ⟨R,hR⟩:∃R,checkP v ⟨cc.k,p,cc.key,cc.i,cc.j,cc.n,xv,cc.s⟩=R:=⟨_,rfl⟩;rw [hR];simp only [checkP,hsd] at hR;have HR:=qh hR;have HB:=qh (KBk.start w ⟨vk,vn,vs,la,ll,lc,oa,ol,oc⟩ cc 29 54);clear hR hsd hv hp hxv hxw hw hT hcb;go_enter Tryz.func51,Tryz.ntmps51
 go_wp2_with fail;refine (HSD.out _ HB.out.below).mono ?_
 rintro e W ⟨rfl,hb1⟩;have B:=HB.out.next hb1 (by simp);obtain ⟨v0,v1,v2,v3,v4⟩:=row5 B.v.at_;obtain ⟨b0,b1,b2,b3,b4,b5,b6,b7,b8,b9,b10,b11⟩:=row12 B.c.at_;have z0:=B.v.lt;have z1:=B.c.lt;have HBW:=qh B;clear B hb1
 cases sd with
 | false=>
   obtain rfl:R=60:=by rw [<-HR.out];rfl
   go_wp2_with fail;go_returns
   exact ⟨rfl,HBW.out.below⟩
 | true=>
   go_wp2_with fail;refine (HGT.out _ HBW.out.below).mono ?_
   rintro e W2 h2;obtain ⟨d,er,rfl,hrel,hb2⟩:=PGetPost.gen h2;clear h2;have B2:=HBW.out.next hb2 (Nat.succ_le_of_lt z1);clear v0 v1 v2 v3 v4 b0 b1 b2 b3 b4 b5 b6 b7 b8 b9 b10 b11;obtain ⟨v0,v1,v2,v3,v4⟩:=row5 B2.v.at_;obtain ⟨b0,b1,b2,b3,b4,b5,b6,b7,b8,b9,b10,b11⟩:=row12 B2.c.at_;have z0:=B2.v.lt;have z1:=B2.c.lt;have hbl2:=B2.below;have HB2:=qh (hbl2.alloc hbl2.size (.cells (uV d) 29));clear hb2 B2;rcases hrel.out with ⟨hg,rfl⟩|⟨x,hg,rfl,hI⟩
   .obtain rfl:R=30:=by rw [<-HR.out,hg];rfl
    clear hg hbl2;go_wp2_with fail;go_returns;exact ⟨rfl,HB2.out⟩
   .have HK:Hid (uP 91 #[.agg (uV d), .agg (uC cc)] (W2.alloc (.cells (uV d) 29)) fun e w'=>e= .returned (.int .u16 (kindsP x cc.k cc.i cc.j cc.n cc.key))/\uB (W2.alloc (.cells (uV d) 29)) w'):=HKD.out _ x d HB2.out ((hI.sepI.isVal.sub (Zl _ _ _)).later_ ((zzc _ _).alloc (zza _) _)) hg;obtain rfl:R=kindsP x cc.k cc.i cc.j cc.n cc.key:=by rw [<-HR.out,hg];rfl
    clear hg hI hrel hbl2;go_wp2_with fail;refine HK.out.mono ?_;rintro e W3 ⟨rfl,hb3⟩;go_wp2_with fail;go_returns;exact ⟨rfl,HB2.out.trans (hb3.mono HB2.out.size)⟩
theorem zi6 (w:World) (l:List V) (a:Option Addr) (n c:Nat) (hl:IsVals w w.heap.size l a n c) (hfew:n<=100000000) (cc:CC) (x:V) (hx:IsVal w w.heap.size x cc.v) (hc:lCheck n cc.k cc.i cc.j=0):
 uP 116 #[.slice a n c, .agg (uC cc)] w (SeqPost w (listDo l cc.k cc.i cc.j x)):=by
 delta uC uP;obtain ⟨h4,h7,_⟩:=Yj hc;by_cases k4:cc.k=4
 .exact zf7 w l a n c hl hfew cc x hx hc k4
 by_cases k5:cc.k=5
 .exact zf5 w l a n c hl hfew cc x hc k5
 by_cases k6:cc.k=6
 .exact zkj w l a n c hl hfew cc x hx hc k6
 exact zn3 w l a n c hl hfew cc x hc (by omega)
theorem zl8 (w:World) (B:Nat) (d:VC) (cc:CC) (l:List V) (xv:V) (hB:BC w B (wcells d cc)) (hl:IsVals w w.heap.size l d.la d.ll d.lc) (hfew:l.length<=100000000) (hx:IsVal w w.heap.size xv cc.v) (hc:lCheck l.length cc.k cc.i cc.j=0):
 uP 69 #[.pointer (some ⟨B,0,none⟩)] w fun e w'=>e= .returned (.tuple #[])/\∃W a n c,uB w W/\w'=W.setCell ⟨B,3,none⟩ (.slice a n c)/\IsVals (only (fun b=>w.heap.size<=b) W) W.heap.size (listDo l cc.k cc.i cc.j xv) a n c:=by
 delta uB uP;have hlen:=hl.len;have HTD:Hid (∀W,uB w W->uP 116 #[.slice d.la d.ll d.lc, .agg (uC cc)] W fun e w'=>(∃a n c,e= .returned (.tuple #[.slice a n c, .int .u16 0])/\IsVals (only (fun b=>W.heap.size<=b) w') w'.heap.size (listDo l cc.k cc.i cc.j xv) a n c)/\uB W w'):=qh fun W hW=>zi6 W l d.la d.ll d.lc (hl.later_ hW) (by omega) cc xv (hx.later_ hW) (by rw [hlen];exact hc);have HB:=qh hB;have HBD:=qh (Zf w);have c3:=hB.at_ 3 _ rfl;have f3:=hB.fr 3;have c5:=hB.at_ 5 _ rfl;have c6:=hB.at_ 6 _ rfl;have c7:=hB.at_ 7 _ rfl;have c8:=hB.at_ 8 _ rfl;have c9:=hB.at_ 9 _ rfl;have c10:=hB.at_ 10 _ rfl;have c11:=hB.at_ 11 _ rfl;have c12:=hB.at_ 12 _ rfl;have c13:=hB.at_ 13 _ rfl;have c14:=hB.at_ 14 _ rfl;have c15:=hB.at_ 15 _ rfl;have c16:=hB.at_ 16 _ rfl;have zs:=hB.lt;have mixed:Tryz.prog.follows .mixedOrders=true:=by kernel_rfl
 obtain ⟨TD,hTD⟩:∃TD,listDo l cc.k cc.i cc.j xv=TD:=⟨_,rfl⟩;rw [hTD] at HTD ⊢;clear hB hTD hc hfew hl hlen hx;go_enter Tryz.func69,Tryz.ntmps69
 go_wp2_with fail;go_region_with (go_simp;go_at_call 116;(with_reducible refine (HTD.out _ HBD.out).mono ?_);rintro e w4 ⟨⟨a4,n4,m4,rfl,hI⟩,hb4⟩;have B4:=HB.out.keep ((Zf w).trans hb4) HB.out.lt;have g3:=B4.at_ 3 _ rfl;have f3':=B4.fr 3;have z4:=B4.lt;have HB4:=qh ((Zf w).trans hb4);have HI:=qh hI;clear hb4 B4 hI)
 all_goals (go_wp2_with fail;exact ⟨rfl, .tuple #[],by simp [results,Tryz.results69,go_sem],rfl,w4,a4,n4,m4,HB4.out,rfl,HI.out⟩)
def MidPost (base:Nat) (W3:World) (B:Nat) (cc:CC) (y:V) (e:Ending) (w':World):Prop:=
 e= .returned (.tuple #[])/\∃d':VC,BC w' B (wcells d' cc)/\IsVal w' w'.heap.size y d'/\Below base W3 w'
structure Mid (w0 W2 W3:World) (base B:Nat) (x:V) (d:VC) (cc:CC) (xv:V):Prop where
 whole:Whole W2 base x d
 next:Below W2.heap.size W2 W3
 box:BC W3 B (wcells d cc)
 B2:W2.heap.size<=B
 b0:w0.heap.size<=base
 b1:base<=W2.heap.size
 low:Below w0.heap.size w0 W2
 xv:IsVal w0 w0.heap.size xv cc.v
theorem Whole.isVal {w:World} {base:Nat} {x:V} {d:VC} (h:Whole w base x d):IsVal w w.heap.size x d:=h.sepI.isVal.sub (Zl _ _ _)
theorem IsVal.parts {w:World} {B:Nat} {x:V} {d:VC} (h:IsVal w B x d):x.kd=d.k/\x.nm=d.n/\x.str=d.s/\d.Bnd/\IsVals w B x.ls d.la d.ll d.lc/\IsFields w B x.os d.oa d.ol d.oc:=by obtain ⟨kx,nx,sx,lx,ox,rfl⟩:=x.eta;obtain ⟨e1,e2,e3,hbd,hl,ho⟩:=h.lists;subst e1 e2 e3;exact ⟨rfl,rfl,rfl,hbd,hl,ho⟩
theorem Mid.seen {w0 W2 W3 W:World} {base B:Nat} {x:V} {d:VC} {cc:CC} {xv:V} (h:Mid w0 W2 W3 base B x d cc xv) (hb:uB W2 W):IsVal W W.heap.size x d:=(Whole.isVal h.whole).later_ hb
theorem Mid.seenv {w0 W2 W3 W:World} {base B:Nat} {x:V} {d:VC} {cc:CC} {xv:V} (h:Mid w0 W2 W3 base B x d cc xv) (hb:uB W2 W):IsVal W W.heap.size xv cc.v:=h.xv.later_ (h.low.trans (hb.mono (zzl h.b0 h.b1)))
theorem zpn (w0 W2 W3:World) (base B:Nat) (x:V) (d:VC) (p:List St) (cc:CC) (xv:V) (h:Mid w0 W2 W3 base B x d cc xv) (hk:cc.k=1):
 uP 67 #[.pointer (some ⟨B,0,none⟩)] W3 (MidPost base W3 B cc (doneP x ⟨cc.k,p,cc.key,cc.i,cc.j,cc.n,xv,cc.s⟩)):=by
 delta uP;refine (zfx W3 B d cc h.box).mono ?_;rintro e w' ⟨rfl,W,hb,rfl⟩;have hb2:uB W2 (W.setCell ⟨B,1,none⟩ (.int .i64 (wrap64 (d.n+cc.n)))):=(h.next.trans (hb.mono h.next.size)).set_ h.B2;have hx:=h.seen hb2;have hB:=(h.box.keep hb h.box.lt).set (i:=1) (x:= .int .i64 (wrap64 (d.n+cc.n))) (by simp [wcells,vcells]);obtain ⟨e1,e2,e3,hbd,hl,ho⟩:=hx.parts;refine ⟨rfl,⟨d.k,wrap64 (d.n+cc.n),d.s,d.la,d.ll,d.lc,d.oa,d.ol,d.oc⟩,hB, ?_,(hb.mono (zzl h.b1 h.next.size)).set_ (zzl h.b1 h.B2)⟩;rw [doneP,if_pos hk,e1,e2,e3];exact Y9 hbd.k0 hbd.k1 (Ku _) (Kx _) hbd.s1 hl ho
theorem zie (w0 W2 W3:World) (base B:Nat) (x:V) (d:VC) (p:List St) (cc:CC) (xv:V) (h:Mid w0 W2 W3 base B x d cc xv) (hk:cc.k=8∨cc.k=9) (hcb:cc.Bnd) (hs:d.s.size<=1000000000000) (hcs:d.s.size+d.s.size+cc.s.size<=140737488355328) (hc:tCheck x.str cc.k cc.i cc.n=0):
 uP 70 #[.pointer (some ⟨B,0,none⟩)] W3 (MidPost base W3 B cc (doneP x ⟨cc.k,p,cc.key,cc.i,cc.j,cc.n,xv,cc.s⟩)):=by
 delta uP;have hstr:x.str=d.s:=(X1 (Whole.isVal h.whole)).1;rw [hstr] at hc;refine (zqb W3 B d cc h.box hcb hs hc).mono ?_;rintro e w' ⟨rfl,W,hb,rfl⟩;have htz:(textDo d.s cc.k cc.i cc.n cc.s).size<=140737488355328:=by have:=zbt d.s cc.k cc.i cc.n cc.s;omega
 have hb2:uB W2 (W.setCell ⟨B,2,none⟩ (.string (textDo d.s cc.k cc.i cc.n cc.s))):=(h.next.trans (hb.mono h.next.size)).set_ h.B2;have hx:=h.seen hb2;have hB:=(h.box.keep hb h.box.lt).set (i:=2) (x:= .string (textDo d.s cc.k cc.i cc.n cc.s)) (by simp [wcells,vcells]);obtain ⟨e1,e2,e3,hbd,hl,ho⟩:=hx.parts;refine ⟨rfl,⟨d.k,d.n,textDo d.s cc.k cc.i cc.n cc.s,d.la,d.ll,d.lc,d.oa,d.ol,d.oc⟩,hB, ?_,(hb.mono (zzl h.b1 h.next.size)).set_ (zzl h.b1 h.B2)⟩;rw [doneP,if_neg (by dsimp only;omega),if_neg (by dsimp only;omega),if_pos hk,e1,e2,e3];exact Y9 hbd.k0 hbd.k1 hbd.n0 hbd.n1 htz hl ho
theorem zf8 (w0 W2 W3:World) (base B:Nat) (x:V) (d:VC) (p:List St) (cc:CC) (xv:V) (h:Mid w0 W2 W3 base B x d cc xv) (hk:4<=cc.k/\cc.k<=7) (hfew:x.ls.length<=100000000) (hc:lCheck x.ls.length cc.k cc.i cc.j=0):
 uP 69 #[.pointer (some ⟨B,0,none⟩)] W3 (MidPost base W3 B cc (doneP x ⟨cc.k,p,cc.key,cc.i,cc.j,cc.n,xv,cc.s⟩)):=by
 delta uP;obtain ⟨_,_,_,_,hl3,_⟩:=(h.seen h.next).parts;refine (zl8 W3 B d cc x.ls xv h.box ?_ hfew (h.seenv h.next) hc).mono ?_
 .exact hl3
 rintro e w' ⟨rfl,W,a,n,c,hb,rfl,hI⟩;have hb2:uB W2 (W.setCell ⟨B,3,none⟩ (.slice a n c)):=(h.next.trans (hb.mono h.next.size)).set_ h.B2;have hx:=h.seen hb2;have hB:=(h.box.keep hb h.box.lt).set (i:=3) (x:= .slice a n c) (by simp [wcells,vcells]);obtain ⟨e1,e2,e3,hbd,hl,ho⟩:=hx.parts;refine ⟨rfl,⟨d.k,d.n,d.s,a,n,c,d.oa,d.ol,d.oc⟩,hB, ?_,(hb.mono (zzl h.b1 h.next.size)).set_ (zzl h.b1 h.B2)⟩;rw [doneP,if_neg (by dsimp only;omega),if_neg (by dsimp only;omega),if_neg (by dsimp only;omega),e1,e2];have e3':x.str=d.s:=e3;rw [e3'];have hst:RStep W (W.setCell ⟨B,3,none⟩ (.slice a n c)) B:=RStep.self;exact Y9 hbd.k0 hbd.k1 hbd.n0 hbd.n1 hbd.s1 ((IsVals.sub (fun b o u hb h'=>by
  obtain ⟨hs,hc⟩:=Z7 h';exact hst.cell hc (by have:=h.box.lt;omega)) hI).more hst.size) ho
theorem zkr (w0 W2 W3:World) (base B:Nat) (x:V) (d:VC) (p:List St) (cc:CC) (xv:V) (h:Mid w0 W2 W3 base B x d cc xv) (hk:cc.k=2∨cc.k=3) (hfew:x.ls.length<=100000000/\x.os.length<=100000000) (hr:rising x.os=true) (hks:cc.key.size<=140737488355328) (hc:cc.k=3->fieldIs x.os cc.key=true):
 uP 68 #[.pointer (some ⟨B,0,none⟩)] W3 (MidPost base W3 B cc (doneP x ⟨cc.k,p,cc.key,cc.i,cc.j,cc.n,xv,cc.s⟩)):=by
 delta uP;have hS:∀k,base<=k->k<W2.heap.size->base<=k/\k≠B:=fun k h1 h2=>⟨h1,by have:=h.B2;omega⟩;obtain ⟨co,hF2⟩:=FRow.of (S:=fun k=>base<=k/\k≠B) h.whole rfl hS;have hL2:=h.whole.lists hS (by omega);have hne:(Value.slice d.oa d.ol d.oc).ownBlock≠some B:=fun e=>by have:=(hF2.own.lt _ e).2;have:=h.B2;omega
 have hF3:=hF2.later h.next;obtain ⟨_,_,_,_,_,ho3⟩:=(h.seen h.next).parts;have key:∀e w',WFPost W3 B base d cc (newF x.os cc.key xv (cc.k==3)) e w'->MidPost base W3 B cc (doneP x ⟨cc.k,p,cc.key,cc.i,cc.j,cc.n,xv,cc.s⟩) e w':=by
  rintro e w' ⟨rfl,a,n,c,hB,hI,hg⟩;refine ⟨rfl,⟨d.k,d.n,d.s,d.la,d.ll,d.lc,a,n,c⟩,hB, ?_,hg.low (zzl h.b1 h.next.size) (zzl h.b1 h.B2) (fun k hk=>(hF2.own.lt k hk).1)⟩;obtain ⟨_,_,_,hbd,_,_⟩:=(Whole.isVal h.whole).parts;have hl1:=IsVals.sub (Zc (S':=fun _=>True) (w':=w') fun k hk hl=>⟨trivial,(hg.block k (zzj hl h.next.size) hk.1.2 (fun e=>hk.2 e.symm)).trans (h.next.block k hl)⟩) hL2;have hl:IsVals w' w'.heap.size x.ls d.la d.ll d.lc:=(IsVals.sub (Zl _ _ _) hl1).more (zzl h.next.size hg.size);have ho:=IsFields.sub (Zl _ _ _) hI;have he:=h.whole.1;rw [<-Y0 hr] at ho;rw [doneP,if_neg (by dsimp only;omega),if_pos hk];have e1:x.kd=d.k:=by rw [he];rfl
  have e2:x.nm=d.n:=by rw [he];rfl
  have e3:x.str=d.s:=by rw [he];rfl
  rw [e1,e2,e3];exact Y9 hbd.k0 hbd.k1 hbd.n0 hbd.n1 hbd.s1 hl ho
 have hw0:uB w0 W3:=h.low.trans (h.next.mono (zzl h.b0 h.b1));have hbB:base<=B:=zzl h.b1 h.B2;rcases hk with hk|hk
 .rw [hk] at key
  cases hi:fieldIs x.os cc.key with
  |true=>exact (zdw w0 W3 B base d cc x xv co h.box hw0 h.b0 hbB ho3 hF3 hne h.xv hk hfew.2 hks).mono fun e w' hp=>by rw [hk];exact key e w' hp
  |false=>exact (zdw w0 W3 B base d cc x xv co h.box hw0 h.b0 hbB ho3 hF3 hne h.xv hk hfew.2 hks).mono fun e w' hp=>by rw [hk];exact key e w' hp
 .rw [hk] at key;exact (zmy w0 W3 B base d cc x xv co h.box hw0 h.b0 hbB ho3 hF3 hne h.xv hk (hc hk) hfew.2 hks).mono fun e w' hp=>by rw [hk];exact key e w' hp
theorem zj7 {n b0 b1 b2 b3 r k:Nat} (h:Lib.decodeN n b0 b1 b2 b3=(r,k)) (hn:1<=n):k<=n:=by
 unfold Lib.decodeN at h
 repeat' split at h
 all_goals (simp only [Prod.mk.injEq] at h;omega)
theorem zjh {n m b0 b1 b2 b3 c1 c2 c3 r k:Nat} (h:Lib.decodeN n b0 b1 b2 b3=(r,k)) (hv:¬(r=65533/\k=1)) (hm:k<=m) (e1:2<=k->c1=b1) (e2:3<=k->c2=b2) (e3:4<=k->c3=b3):Lib.decodeN m b0 c1 c2 c3=(r,k):=by
 unfold Lib.decodeN at h ⊢;by_cases h0:b0<128
 .rw [if_pos h0] at h ⊢;exact h
 rw [if_neg h0] at h ⊢;by_cases h1:b0 / 32=6/\(1<n/\b1 / 64=2)
 .rw [if_pos h1] at h;split at h
  .rename_i hq;obtain ⟨rfl,rfl⟩:=Prod.mk.inj h;obtain rfl:=e1 (by omega);rw [if_pos ⟨h1.1,by omega,h1.2.2⟩,if_pos hq]
  .obtain ⟨rfl,rfl⟩:=Prod.mk.inj h;exact absurd ⟨rfl,rfl⟩ hv
 rw [if_neg h1] at h;by_cases h2:b0 / 16=14/\(1<n/\b1 / 64=2)/\(2<n/\b2 / 64=2)
 .rw [if_pos h2] at h;split at h
  .rename_i hq;obtain ⟨rfl,rfl⟩:=Prod.mk.inj h;obtain rfl:=e1 (by omega);obtain rfl:=e2 (by omega);rw [if_neg (by omega),if_pos ⟨h2.1,⟨by omega,h2.2.1.2⟩,by omega,h2.2.2.2⟩,if_pos hq]
  .obtain ⟨rfl,rfl⟩:=Prod.mk.inj h;exact absurd ⟨rfl,rfl⟩ hv
 rw [if_neg h2] at h;by_cases h3:b0 / 8=30/\(1<n/\b1 / 64=2)/\(2<n/\b2 / 64=2)/\(3<n/\b3 / 64=2)
 .rw [if_pos h3] at h;split at h
  .rename_i hq;obtain ⟨rfl,rfl⟩:=Prod.mk.inj h;obtain rfl:=e1 (by omega);obtain rfl:=e2 (by omega);obtain rfl:=e3 (by omega);rw [if_neg (by omega),if_neg (by omega),if_pos ⟨h3.1,⟨by omega,h3.2.1.2⟩,⟨by omega,h3.2.2.1.2⟩,by omega,h3.2.2.2.2⟩,if_pos hq]
  .obtain ⟨rfl,rfl⟩:=Prod.mk.inj h;exact absurd ⟨rfl,rfl⟩ hv
 rw [if_neg h3] at h;obtain ⟨rfl,rfl⟩:=Prod.mk.inj h;exact absurd ⟨rfl,rfl⟩ hv
theorem J8 {l:List UInt8} (h:l≠ []):(Lib.decodeL l).2<=l.length:=by have h0:0<l.length:=List.length_pos_iff.2 h;rw [Lib.decodeL_N];exact zj7 (Prod.eta _).symm h0
theorem Kk {l m:List UInt8} (hv:¬((Lib.decodeL l).1=65533/\(Lib.decodeL l).2=1)) (hm:(Lib.decodeL l).2<=m.length) (h:∀i,i<(Lib.decodeL l).2->m.getD i 0=l.getD i 0):Lib.decodeL m=Lib.decodeL l:=by
 have hw:=Lib.decodeL_width l;obtain ⟨r,hr⟩:∃r,(Lib.decodeL l).1=r:=⟨_,rfl⟩;obtain ⟨k,hk⟩:∃k,(Lib.decodeL l).2=k:=⟨_,rfl⟩;have hd:Lib.decodeL l=(r,k):=by rw [<-hr, <-hk]
 rw [hr,hk] at hv;rw [hk] at hm h hw;rw [hd];rw [Lib.decodeL_N] at hd ⊢;rw [h 0 (by omega)];exact zjh hd hv hm (fun hq=>by rw [h 1 (by omega)]) (fun hq=>by rw [h 2 (by omega)]) (fun hq=>by rw [h 3 (by omega)])
theorem Xs:∀(n:Nat) (a b:List UInt8),a.length<=n->Lib.validD a=true->Lib.validD (a++b)=Lib.validD b:=by
 intro n
 induction n with
 |zero=>intro a b ha _;obtain rfl:a= [] :=List.length_eq_zero_iff.1 (by omega);rfl
 | succ n ih=>
   intro a b ha hv;by_cases hne:a= []
   .subst hne;rfl
   have hw:=Lib.decodeL_width a;have hf:=J8 hne;rw [Lib.validD_step a hne] at hv;by_cases hbad:(Lib.decodeL a).1=65533/\(Lib.decodeL a).2=1
   .rw [if_pos hbad] at hv;cases hv
   rw [if_neg hbad] at hv;have e:Lib.decodeL (a++b)=Lib.decodeL a:=Kk hbad (by rw [zze];omega) fun i hi=>by rw [zzb,zzb,List.getElem?_append_left (by omega)]
   rw [Lib.validD_step (a++b) (by simp [hne]),e,if_neg hbad,List.drop_append_of_le_length hf];exact ih _ b (by rw [zzf];omega) hv
theorem zjz (f:Nat):∀(i:Nat) (l:List UInt8),Lib.validD l=true->∀p ∈ cutsP f i l,Lib.validD (l.take (p - i))=true/\Lib.validD (l.drop (p - i))=true:=by
 induction f with
 |zero=>intro i l _ p hp;simp [cutsP] at hp
 | succ f ih=>
   intro i l hv p hp;rw [cutsP] at hp;by_cases hne:l= []
   .rw [if_pos hne] at hp;simp at hp
   rw [if_neg hne] at hp;have hw:=Lib.decodeL_width l;have hf:=J8 hne;rcases List.mem_cons.1 hp with rfl|hp
   .rw [Nat.sub_self];exact ⟨rfl,hv⟩
   .have hr:=Jp f _ _ p hp;rw [Lib.validD_step l hne] at hv;by_cases hbad:(Lib.decodeL l).1=65533/\(Lib.decodeL l).2=1
    .rw [if_pos hbad] at hv;cases hv
    rw [if_neg hbad] at hv;obtain ⟨h1,h2⟩:=ih _ _ hv p hp;have e0:p - i=(Lib.decodeL l).2+(p - (i+(Lib.decodeL l).2)):=by omega
    refine ⟨?_,by rw [e0, <-List.drop_drop];exact h2⟩;have hk:Lib.validD (l.take (Lib.decodeL l).2)=true:=by
     have e:Lib.decodeL (l.take (Lib.decodeL l).2)=Lib.decodeL l:=Kk hbad (by rw [zzd];omega) fun j hj=>by rw [zzb,zzb,List.getElem?_take_of_lt hj]
     rw [Lib.validD_step _ (fun h=>by
      have:=congrArg List.length h;rw [zzd,List.length_nil] at this;have h0:0<l.length:=List.length_pos_iff.2 hne;omega),e,if_neg hbad,List.drop_eq_nil_of_le (by rw [zzd];omega)]
     rfl
    rw [e0,List.take_add,Xs _ _ _ (zza _) hk];exact h1
theorem zc4 (s:ByteArray) {i:Nat} (h:i<=textN s):(cuts s).getD i 0 ∈ cuts s:=by have h0:=(Yp s).1;unfold textN at h;rw [zzb,zzg (by omega)];exact List.getElem_mem _
theorem zb5 {s:ByteArray} (hv:Lib.validD s.data.toList=true) {p:Nat} (hp:p ∈ cuts s):Lib.validD (s.data.toList.take p)=true/\Lib.validD (s.data.toList.drop p)=true:=by
 unfold cuts at hp;rcases List.mem_append.1 hp with hp|hp
 .have:=zjz s.size 0 s.data.toList hv p hp
  rwa [Nat.sub_zero] at this
 .rw [List.mem_singleton] at hp;subst hp;rw [List.take_of_length_le (by simp),List.drop_eq_nil_of_le (by simp)];exact ⟨hv,rfl⟩
theorem Xh (s:ByteArray) (i j:Nat):(s.extract i j).data.toList=(s.data.toList.take j).drop i:=by simp [ByteArray.data_extract,List.drop_take]
theorem zhp {s cs:ByteArray} {k i n:Int} (hv:Lib.validD s.data.toList=true) (hc:Lib.validD cs.data.toList=true) (h:tCheck s k i n=0):Lib.validD (textDo s k i n cs).data.toList=true:=by
 obtain ⟨hk,h0,h1⟩:=J3 h;have hm:(cuts s).getD i.toNat 0 ∈ cuts s:=zc4 s (by omega);have e1:∀p,(s.extract 0 p).data.toList=s.data.toList.take p:=fun p=>by rw [Xh];rfl
 have e2:∀p,(s.extract p s.size).data.toList=s.data.toList.drop p:=fun p=>by rw [Xh,List.take_of_length_le (by simp)]
 obtain ⟨v1,v2⟩:=zb5 hv hm;unfold textDo;split
 .rw [ByteArray.data_append,ByteArray.data_append,Array.toList_append,Array.toList_append,List.append_assoc,e1,e2,Xs _ _ _ (zza _) v1,Xs _ _ _ (zza _) hc];exact v2
 .have hm2:(cuts s).getD (i+n).toNat 0 ∈ cuts s:=zc4 s (by omega);rw [ByteArray.data_append,Array.toList_append,e1,e2,Xs _ _ _ (zza _) v1];exact (zb5 hv hm2).2
theorem Z3 {k n:Int} {s:ByteArray} {l:List V} {o:List (ByteArray×V)} :V.sound (.mk k n s l o)=true↔plainB k n s l.length o.length=true/\rising o=true/\(∀v ∈ l,v.sound=true)/\(∀f ∈ o,Lib.validD f.1.data.toList=true/\f.2.sound=true):=by simp only [V.sound,Bool.and_eq_true,Ji,J5,and_assoc]
theorem zas:V.none.sound=true:=by simp [V.none,V.sound,soundL,soundO,rising,plainB,ByteArray.toList_eq]
theorem zeb {v:V} {s:St} {x:V} {k:Nat} (hv:v.sound=true) (h:stepP v s=some (x,k)):x.sound=true:=by
 obtain ⟨kk,n,t,l,o,rfl⟩:=v.eta;obtain ⟨_,_,h3,h4⟩:=Z3.1 hv;rcases Y7 h with ⟨_,_,_,hk,rfl⟩|⟨_,_,_,hk,rfl⟩
 .exact h3 _ (List.getElem_mem (l:=l) hk)
 .exact (h4 _ (List.getElem_mem (l:=o) hk)).2
theorem Ke (p:List St):∀ {v x:V},v.sound=true->getP v p=some x->x.sound=true:=by
 induction p with
 |nil=>intro v x hv h;injection h with h;exact h ▸ hv
 | cons s r ih=>
   intro v x hv h;unfold getP at h
   cases hs:stepP v s with
   |none=>rw [hs] at h;cases h
   | some q=>obtain ⟨y,k⟩:=q;rw [hs] at h;exact ih (zeb hv hs) h
theorem zls {v z:V} {i:Nat} (hv:v.sound=true) (hz:z.sound=true):(v.setL i z).sound=true:=by
 obtain ⟨kk,n,t,l,o,rfl⟩:=v.eta;obtain ⟨h1,h2,h3,h4⟩:=Z3.1 hv;refine Z3.2 ⟨by rw [List.length_set];exact h1,h2,fun x hx=> ?_,h4⟩;rcases List.mem_or_eq_of_mem_set hx with h|h
 .exact h3 x h
 .exact h ▸ hz
theorem zou {v z:V} {i:Nat} (hv:v.sound=true) (hz:z.sound=true):(v.setO i z).sound=true:=by
 obtain ⟨kk,n,t,l,o,rfl⟩:=v.eta;obtain ⟨h1,h2,h3,h4⟩:=Z3.1 hv;have hlen:(putO o i z).length=o.length:=by rw [putO,List.length_set]
 have hkey:∀(j:Nat) (a:ByteArray×V),(putO o i z)[j]? =some a->∃b:ByteArray×V,o[j]? =some b/\b.1=a.1:=by
  intro j a ha;have hj:j<o.length:=by rw [<-hlen];exact (List.getElem?_eq_some_iff.1 ha).1
  by_cases e:i=j
  .subst e;rw [putO,List.getElem?_set_self hj] at ha;injection ha with ha;refine ⟨o[i],zzg hj, ?_⟩;rw [<-ha,zzb,zzg hj];rfl
  .rw [putO,List.getElem?_set_ne e] at ha;exact ⟨a,ha,rfl⟩
 refine Z3.2 ⟨by rw [hlen];exact h1,Qb.2 fun j a b ha hb=> ?_,h3,fun f hf=> ?_⟩
 .obtain ⟨a',ha',ea⟩:=hkey j a ha;obtain ⟨b',hb',eb⟩:=hkey (j+1) b hb;rw [<-ea, <-eb];exact Qb.1 h2 j a' b' ha' hb'
 .unfold putO at hf;by_cases hi:i<o.length
  .rcases List.mem_or_eq_of_mem_set hf with h|h
   .exact h4 f h
   .subst h;refine ⟨?_,hz⟩;rw [zzb,zzg hi];exact (h4 _ (List.getElem_mem hi)).1
  .rw [List.set_eq_of_length_le (by omega)] at hf;exact h4 f hf
theorem zfl (p:List St):∀ {v x w:V},v.sound=true->x.sound=true->putP v p x=some w->w.sound=true:=by
 induction p with
 |nil=>intro v x w _ hx h;injection h with h;exact h ▸ hx
 | cons s r ih=>
   intro v x w hv hx h;unfold putP at h
   cases hs:stepP v s with
   |none=>rw [hs] at h;cases h
   | some q=>
     obtain ⟨y,k⟩:=q;rw [hs] at h;dsimp only at h
     cases hp:putP y r x with
     |none=>rw [hp] at h;cases h
     | some z=>
       rw [hp] at h;dsimp only at h;injection h with h;have hz:=ih (zeb hv hs) hx hp;split at h
       .exact h ▸ zls hv hz
       .exact h ▸ zou hv hz
theorem zkk {o:List (ByteArray×V)} (h:rising o=true) (i:Nat) (hi:i<o.length):rising (o.take i++o.drop (i+1))=true:=by
 have hg:=Qb.1 h;have l1:(o.take i).length=i:=by rw [zzd];omega
 have e1:∀j,j<i->(o.take i++o.drop (i+1))[j]? =o[j]? :=fun j hj=>by rw [List.getElem?_append_left (by omega),List.getElem?_take_of_lt hj]
 have e2:∀j,i<=j->(o.take i++o.drop (i+1))[j]? =o[j+1]? :=fun j hj=>by rw [List.getElem?_append_right (by omega),l1,List.getElem?_drop,show i+1+(j - i)=j+1 by omega]
 refine Qb.2 fun j a b ha hb=> ?_;by_cases c1:j+1<i
 .rw [e1 j (by omega)] at ha;rw [e1 _ c1] at hb;exact hg j a b ha hb
 .by_cases c2:j+1=i
  .rw [e1 j (by omega)] at ha;rw [e2 _ (by omega),c2] at hb;have hm:o[i]? =some o[i] :=zzg hi;have h1:=hg j a o[i] ha (by rw [c2];exact hm);exact zdm h1 (hg i o[i] b hm hb)
  .rw [e2 j (by omega)] at ha;rw [e2 _ (by omega)] at hb;exact hg (j+1) a b ha hb
theorem zer {o:List (ByteArray×V)} (key:ByteArray) (x:V) (d:Bool) (h:rising o=true):rising (newF o key x d)=true:=by
 unfold newF;split
 .unfold remF;by_cases e:fieldIs o key=true
  .rw [if_pos e];exact zkk h _ (Yf e)
  .rw [if_neg e,List.take_append_drop];exact h
 .exact Kn key x h
theorem zgs {o:List (ByteArray×V)} {key:ByteArray} {x:V} {d:Bool} {f:ByteArray×V} (h:f ∈ newF o key x d):f ∈ o∨(d=false/\f=(key,x)):=by
 unfold newF at h
 cases d with
 | true=>
   rw [if_pos rfl,remF] at h;rcases List.mem_append.1 h with h|h
   .exact .inl (List.mem_of_mem_take h)
   .exact .inl (List.mem_of_mem_drop h)
 | false=>
   rw [if_neg (by simp)] at h;rcases zbw h with h|h
   .exact .inl h
   .exact .inr ⟨rfl,h⟩
theorem zlw {x:Cm} (h:cmSound x=true):Lib.validD x.key.data.toList=true/\Lib.validD x.s.data.toList=true/\x.v.sound=true:=by unfold cmSound at h;simp only [Bool.and_eq_true] at h;exact ⟨h.1.1.1.1.1.1.1.1.2,h.1.1.1.1.1.1.1.2,h.1.1.2⟩
theorem zlm {x:V} {c:Cm} (hx:x.sound=true) (hc:cmSound c=true) (hk:kindsP x c.k c.i c.j c.n c.key=0):(doneP x c).sound=true:=by
 obtain ⟨hkey,hs,hv⟩:=zlw hc;obtain ⟨kk,n,t,l,o,rfl⟩:=x.eta;obtain ⟨h1,h2,h3,h4⟩:=Z3.1 hx;unfold doneP;unfold kindsP at hk;by_cases c1:c.k=1
 .rw [if_pos c1] at hk ⊢;have hkd:kk=2:=by
   by_cases e:kk=2
   .exact e
   .rw [if_pos (show (V.mk kk n t l o).kd≠2 from e)] at hk;omega
  subst hkd;exact Z3.2 ⟨show plainB 2 (wrap64 (n+c.n)) t l.length o.length=true by simpa [plainB] using h1,h2,h3,h4⟩
 rw [if_neg c1] at hk ⊢;by_cases c2:c.k=2∨c.k=3
 .rw [if_pos c2] at hk ⊢;have hkd:kk=5:=by
   by_cases e:kk=5
   .exact e
   .rw [if_pos (show (V.mk kk n t l o).kd≠5 from e)] at hk;omega
  subst hkd;refine Z3.2 ⟨show plainB 5 n t l.length (fieldsDo o c.key c.v (c.k==3)).length=true by simpa [plainB] using h1, ?_,h3,fun f hf=> ?_⟩
  .show rising (fieldsDo o c.key c.v (c.k==3))=true;rw [Y0 h2];exact zer _ _ _ h2
  .have hf:f ∈ fieldsDo o c.key c.v (c.k==3):=hf;rw [Y0 h2] at hf;rcases zgs hf with hf|⟨_,rfl⟩
   .exact h4 f hf
   .exact ⟨hkey,hv⟩
 rw [if_neg c2] at hk ⊢;by_cases c3:c.k=8∨c.k=9
 .rw [if_pos c3] at hk ⊢;have hkd:kk=3:=by
   by_cases e:kk=3
   .exact e
   .rw [if_pos (show (V.mk kk n t l o).kd≠3 from e)] at hk;omega
  subst hkd;rw [if_neg (show ¬(V.mk 3 n t l o).kd≠3 from fun h=>h rfl)] at hk;have h1':((n=0/\Lib.validD t.data.toList=true)/\l= [])/\o= [] :=by simpa [plainB] using h1
  obtain ⟨⟨⟨a1,a2⟩,a3⟩,a4⟩:=h1';have ht:=zhp a2 hs hk;refine Z3.2 ⟨?_,h2,h3,h4⟩;subst a1 a3 a4;show plainB 3 0 (textDo t c.k c.i c.n c.s) 0 0=true;simpa [plainB] using ht
 rw [if_neg c3] at hk ⊢;have hkd:kk=4:=by
  by_cases e:kk=4
  .exact e
  .rw [if_pos (show (V.mk kk n t l o).kd≠4 from e)] at hk;omega
 subst hkd;refine Z3.2 ⟨show plainB 4 n t (listDo l c.k c.i c.j c.v).length o.length=true by simpa [plainB] using h1,h2,fun y hy=> ?_,h4⟩;have hm : ∀y ∈ listDo l c.k c.i c.j c.v,y ∈ l∨y=c.v∨y=V.none:=by
  have hr:∀y ∈ remL l c.i.toNat,y ∈ l:=by
   intro y hy;unfold remL at hy;rcases List.mem_append.1 hy with h|h
   .exact List.mem_of_mem_take h
   .exact List.mem_of_mem_drop h
  have hi:∀ {q:List V} {m:Nat} {z y:V},y ∈ insL q m z->y ∈ q∨y=z:=by
   intro q m z y hy;unfold insL at hy;rcases List.mem_append.1 hy with h|h
   .exact .inl (List.mem_of_mem_take h)
   .rcases List.mem_cons.1 h with h|h
    .exact .inr h
    .exact .inl (List.mem_of_mem_drop h)
  intro y hy;unfold listDo at hy;split at hy
  .rcases hi hy with h|h
   .exact .inl h
   .exact .inr (.inl h)
  .split at hy
   .exact .inl (hr y hy)
   .split at hy
    .rcases List.mem_or_eq_of_mem_set hy with h|h
     .exact .inl h
     .exact .inr (.inl h)
    .rcases hi hy with h|h
     .exact .inl (hr y h)
     .rw [zzb] at h
      cases hq:l[c.i.toNat]? with
      |none=>rw [hq] at h;exact .inr (.inr h)
      |some z=>rw [hq] at h;exact .inl (h ▸ List.mem_of_getElem? hq)
 rcases hm y hy with h|h|h
 .exact h3 y h
 .exact h ▸ hv
 .exact h ▸ zas
theorem X5 {v:V} {c:Cm} (hv:v.sound=true):(doP v c).1.sound=true:=by
 unfold doP;split
 .rename_i he;obtain ⟨hs,x,hg,hk⟩:=Zw he;simp only [hg];obtain ⟨z,hz⟩:=Ya c.path hg (doneP x c);rw [hz];exact zfl c.path hv (zlm (Ke c.path hv hg) hs hk) hz
 .exact zas
theorem zeo (o:List (ByteArray×V)) (key:ByteArray):fieldK o key=((o.map Prod.fst).takeWhile fun s=>Op.bytesLess s.toList key.toList).length:=by rw [List.takeWhile_map,List.length_map];rfl
theorem zch (o:List (ByteArray×V)) (key:ByteArray):fieldIs o key=match (o.map Prod.fst)[fieldK o key]? with
 |some s=>s.toList==key.toList
 |none=>false:=by
 unfold fieldIs;rw [List.getElem?_map];cases o[fieldK o key]? <;>rfl
theorem ze8 (o:List (ByteArray×V)) (i:Nat) (z:V):(putO o i z).map Prod.fst=o.map Prod.fst:=by
 unfold putO;refine List.ext_getElem? fun j=> ?_;rw [List.getElem?_map,List.getElem?_map];by_cases e:i=j
 .subst e;by_cases hi:i<o.length
  .rw [List.getElem?_set_self hi,zzb,zzg hi];rfl
  .rw [List.set_eq_of_length_le (by omega)]
 .rw [List.getElem?_set_ne e]
theorem zc8 (o:List (ByteArray×V)) (i:Nat) (z:V) (key:ByteArray):fieldK (putO o i z) key=fieldK o key:=by rw [zeo,zeo,ze8]
theorem zif (o:List (ByteArray×V)) (i:Nat) (z:V) (key:ByteArray):fieldIs (putO o i z) key=fieldIs o key:=by rw [zch,zch,ze8,zc8]
theorem zem {v:V} {s:St} {y z:V} {k:Nat} (h:stepP v s=some (y,k)):stepP (if s.list=true then v.setL k z else v.setO k z) s=some (z,k):=by
 obtain ⟨kk,n,t,l,o,rfl⟩:=v.eta;unfold stepP at h ⊢;by_cases hl:s.list=true
 .rw [if_pos hl] at h;rw [if_pos hl,if_pos hl];by_cases hc:(V.mk kk n t l o).kd=4/\0<=s.i/\s.i<(V.mk kk n t l o).ls.length
  .rw [if_pos hc] at h;injection h with h;obtain ⟨_,rfl⟩:=Prod.mk.inj h;have hc2:s.i<(l.length:Int):=hc.2.2;have hk:s.i.toNat<l.length:=by omega
   have e:((V.mk kk n t l o).setL s.i.toNat z).ls=l.set s.i.toNat z:=rfl;rw [e,List.length_set,if_pos ⟨hc.1,hc.2.1,hc2⟩,zzb,List.getElem?_set_self hk];rfl
  .rw [if_neg hc] at h;cases h
 .rw [if_neg hl] at h;rw [if_neg hl,if_neg hl];by_cases hc:(V.mk kk n t l o).kd=5/\fieldIs (V.mk kk n t l o).os s.key=true
  .rw [if_pos hc] at h;injection h with h;obtain ⟨_,rfl⟩:=Prod.mk.inj h;have hf:fieldIs o s.key=true:=hc.2;have hk:=Yf hf;have e:((V.mk kk n t l o).setO (fieldK o s.key) z).os=putO o (fieldK o s.key) z:=rfl;have e2:(V.mk kk n t l o).os=o:=rfl;rw [e2,e,zif,zc8,if_pos ⟨hc.1,hf⟩,putO,zzb,List.getElem?_set_self hk];rfl
  .rw [if_neg hc] at h;cases h
theorem zc1 {o:List (ByteArray×V)} {key:ByteArray} (h:fieldIs o key=true):((o.getD (fieldK o key) (.empty,V.none)).1).toList=key.toList:=by have hk:=Yf h;unfold fieldIs at h;rw [zzg hk] at h;rw [zzb,zzg hk];simpa using h
theorem zpe {a b:ByteArray} (h:a.toList=b.toList):a=b:=by rw [ByteArray.toList_eq,ByteArray.toList_eq] at h;cases a;cases b;congr;exact Array.ext' h
end Go.Proofs.YtbgheehjfnoiiaaGreatDoor
