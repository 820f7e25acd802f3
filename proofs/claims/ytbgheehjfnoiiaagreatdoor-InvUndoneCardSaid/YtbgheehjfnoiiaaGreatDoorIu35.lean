/- Walks. -/
import Derived.Test.YtbgheehjfnoiiaaGreatDoorIu33
import Derived.Test.YtbgheehjfnoiiaaGreatDoorIu34
namespace Go.Proofs.YtbgheehjfnoiiaaGreatDoor
open Go.RowKit
theorem zdb (w:World) (vk vn:Int) (vs:ByteArray) (la:Option Addr) (ll lc:Nat) (oa:Option Addr) (ol oc:Nat) (v:V) (hv:IsVal w w.heap.size v ⟨vk,vn,vs,la,ll,lc,oa,ol,oc⟩) (hw:v.weight<=100000000) (p:List St) (xv:V) (cc:CC) (hcb:cc.Bnd) (hp:IsSteps w w.heap.size p cc.pa cc.pl cc.pc) (hxv:IsVal w w.heap.size xv cc.v) (hxw:xv.weight<=4611686018427387904) (hcs:∀y,getP v p=some y->y.str.size+y.str.size+cc.s.size<=140737488355328) (hT:Tabs w):
 uP 33 #[.agg (uU vk vn vs la ll lc oa ol oc), .agg (uC cc)] w (DoPost w (doP v ⟨cc.k,p,cc.key,cc.i,cc.j,cc.n,xv,cc.s⟩)):=by
 delta uU uC uP;by_cases he:checkP v ⟨cc.k,p,cc.key,cc.i,cc.j,cc.n,xv,cc.s⟩=0
 .obtain ⟨hs,x,_,hkd⟩:=Zw he;have hk1:=Qv hs;dsimp only at hk1;by_cases e1:cc.k=1
  .exact zgl w vk vn vs la ll lc oa ol oc v hv hw p xv cc hcb hp hxv hxw hT he e1
  by_cases e2:cc.k=2∨cc.k=3
  .exact zkb w vk vn vs la ll lc oa ol oc v hv hw p xv cc hcb hp hxv hxw hT he e2
  by_cases e3:cc.k=8∨cc.k=9
  .exact zkd w vk vn vs la ll lc oa ol oc v hv hw p xv cc hcb hp hxv hxw hcs hT he e3
  .exact zfj w vk vn vs la ll lc oa ol oc v hv hw p xv cc hcb hp hxv hxw hT he (by omega)
 .exact zmj w vk vn vs la ll lc oa ol oc v hv hw p xv cc hcb hp hxv hxw hT he
theorem Qo:(Tryz.prog.info? 54).map (fun i=>(i.zero,i.size,i.bytes))=some (some (.agg #[.int .u8 0, .slice none 0 0, .string { data:= #[] }, .int .i64 0, .int .i64 0, .int .i64 0, .int .u8 0, .int .i64 0, .string { data:= #[] }, .slice none 0 0, .slice none 0 0, .string { data:= #[] }]),12,168):=by kernel_rfl
structure ActAt (w:World) (b o:Nat) (c:AC):Prop where
 c0:w.cell? ⟨b,o,none⟩=some (.slice c.pa c.pl c.pc)
 c1:w.cell? ⟨b,o+1,none⟩=some (.int .u8 c.k)
 c2:w.cell? ⟨b,o+2,none⟩=some (.int .i64 c.i)
 c3:w.cell? ⟨b,o+3,none⟩=some (.int .i64 c.j)
 c4:w.cell? ⟨b,o+4,none⟩=some (.int .i64 c.n)
 c5:w.cell? ⟨b,o+5,none⟩=some (.string c.s)
 c6:w.cell? ⟨b,o+6,none⟩=some (.slice c.va c.vl c.vc)
theorem ActAt.keep {w w':World} {B b o:Nat} {c:AC} (h:ActAt w b o c) (hb:Below B w w') (hB:b<B):ActAt w' b o c:=
 ⟨Zb hb h.c0 hB,Zb hb h.c1 hB,Zb hb h.c2 hB,Zb hb h.c3 hB,Zb hb h.c4 hB,Zb hb h.c5 hB,Zb hb h.c6 hB⟩
theorem IsAct.keep {w w':World} {B:Nat} {x:Ac} {c:AC} (h:IsAct w B x c) (hb:Below B w w'):IsAct w' B x c:=by
 cases h with
 |mk c p v hbd hp hv=>exact .mk c p v hbd (hp.keep hb) (hv.keep hb)
theorem IsB.more6 {w:World} {B B':Nat} {a:Option Addr} {n c:Nat} {bs:List UInt8} (h:IsB w B a n c bs) (hB:B<=B'):IsB w B' a n c bs:=by obtain ⟨h1,h2,h3,b,o,h5,h6⟩:=h;exact ⟨h1,h2,h3,b,o,fun h=>⟨(h5 h).1,zzj (h5 h).2 hB⟩,h6⟩
theorem IsAct.more {w:World} {B B':Nat} {x:Ac} {c:AC} (h:IsAct w B x c) (hB:B<=B'):IsAct w B' x c:=by
 cases h with
 |mk c p v hbd hp hv=>exact .mk c p v hbd (hp.more6 hB) (hv.more hB)
structure IsActs (w:World) (B:Nat) (l:List Ac) (a:Option Addr) (n c:Nat):Prop where
 len:n=l.length
 cap:n<=c
 max:c<=9223372036854775807
 at_:∃b o,∃f:Nat->AC,(0<n->a=some ⟨b,o,none⟩/\b<B)/\∀i (h:i<l.length),ActAt w b (o+i*7) (f i)/\IsAct w B l[i] (f i)
theorem IsActs.keep {w w':World} {B:Nat} {l:List Ac} {a:Option Addr} {n c:Nat} (h:IsActs w B l a n c) (hb:Below B w w'):IsActs w' B l a n c:=by obtain ⟨h1,h2,h3,b,o,f,h5,h6⟩:=h;exact ⟨h1,h2,h3,b,o,f,h5,fun i hi=>⟨(h6 i hi).1.keep hb (h5 (by omega)).2,(h6 i hi).2.keep hb⟩⟩
theorem IsActs.later_ {w w':World} {l:List Ac} {a:Option Addr} {n c:Nat} (h:IsActs w w.heap.size l a n c) (hb:uB w w'):IsActs w' w'.heap.size l a n c:=by obtain ⟨h1,h2,h3,b,o,f,h5,h6⟩:=h.keep hb;exact ⟨h1,h2,h3,b,o,f,fun hn=>⟨(h5 hn).1,zzj (h5 hn).2 hb.size⟩,fun i hi=>⟨(h6 i hi).1,(h6 i hi).2.more hb.size⟩⟩
theorem IsActs.get {w:World} {B:Nat} {l:List Ac} {a:Option Addr} {n c k:Nat} (h:IsActs w B l a n c) (hk:k<n):
 ∃b o,∃f:AC,∃hp:k<l.length,a=some ⟨b,o,none⟩/\b<B/\ActAt w b (o+k*7) f/\IsAct w B l[k] f:=by
 obtain ⟨h1,h2,h3,b,o,f,h5,h6⟩:=h;exact ⟨b,o,f k,by omega,(h5 (by omega)).1,(h5 (by omega)).2,(h6 k (by omega)).1,(h6 k (by omega)).2⟩
def OneRes (z:Nat) (r:Option Cm) (nn:Int) (W:World) (cc:CC):Prop:=match r with
 |some x=>nn=1/\IsComp (only (fun b=>z<=b) W) W.heap.size x cc
 |none=>nn=0
theorem IsComp.more6 {w:World} {B B':Nat} {x:Cm} {c:CC} (h:IsComp w B x c) (hB:B<=B'):IsComp w B' x c:=by
 cases h with
 |mk c p v hbd hp hv=>exact .mk c p v hbd (hp.more hB) (hv.more hB)
theorem Y5 {W W':World} {S S':Nat->Prop} {B:Nat} {x:Cm} {c:CC} (h:IsComp (only S W) B x c) (hB:B=W.heap.size) (hz:W.heap.size<=W'.heap.size) (hs:∀k,S k->k<W.heap.size->S' k/\W'.heap[k]? =W.heap[k]?):IsComp (only S' W') W'.heap.size x c:=by subst hB;exact (h.sub (Zc hs)).more6 hz
theorem OneRes.step {z z':Nat} {r:Option Cm} {nn:Int} {W W':World} {cc:CC} (h:OneRes z r nn W cc) (hz:z'<=z) (hs:W.heap.size<=W'.heap.size) (hb:∀k,z<=k->k<W.heap.size->W'.heap[k]? =W.heap[k]?):OneRes z' r nn W' cc:=by
 cases r with
 |none=>exact h
 |some x=>exact ⟨h.1,Y5 h.2 rfl hs fun k hk hl=>⟨zzl hz hk,hb k hk hl⟩⟩
theorem OnePost.any {w w':World} {r:Option Cm} {e:Ending} (h:OnePost w r e w'):∃(cc:CC) (nn:Int),e= .returned (.tuple #[.agg #[.int .u8 cc.k, .slice cc.pa cc.pl cc.pc, .string cc.key, .int .i64 cc.i, .int .i64 cc.j, .int .i64 cc.n, .int .u8 cc.v.k, .int .i64 cc.v.n, .string cc.v.s, .slice cc.v.la cc.v.ll cc.v.lc, .slice cc.v.oa cc.v.ol cc.v.oc, .string cc.s], .int .i64 nn])/\OneRes w.heap.size r nn w' cc/\uB w w':=by
 delta uB;obtain ⟨⟨cc,hm⟩,hb⟩:=h
 cases r with
 |none=>exact ⟨cc,0,hm.1,rfl,hb⟩
 |some x=>exact ⟨cc,1,hm.1,⟨rfl,hm.2⟩,hb⟩
theorem zf4 {w w4:World} {r:Option Cm} {nn:Int} {z:Nat} (h:Below w.heap.size w.drew w4) (hz:w.heap.size<=w4.heap.size) (cc:CC) (t:TypeId) (ho:OneRes z r nn w4 cc) (hzz:w.heap.size<=z):BC (w4.alloc (.cells #[.int .u8 cc.k, .slice cc.pa cc.pl cc.pc, .string cc.key, .int .i64 cc.i, .int .i64 cc.j, .int .i64 cc.n, .int .u8 cc.v.k, .int .i64 cc.v.n, .string cc.v.s, .slice cc.v.la cc.v.ll cc.v.lc, .slice cc.v.oa cc.v.ol cc.v.oc, .string cc.s] t)) w4.heap.size (ccells cc)/\Below w.heap.size w.drew (w4.alloc (.cells #[.int .u8 cc.k, .slice cc.pa cc.pl cc.pc, .string cc.key, .int .i64 cc.i, .int .i64 cc.j, .int .i64 cc.n, .int .u8 cc.v.k, .int .i64 cc.v.n, .string cc.v.s, .slice cc.v.la cc.v.ll cc.v.lc, .slice cc.v.oa cc.v.ol cc.v.oc, .string cc.s] t))/\w.heap.size<=w4.heap.size/\OneRes w.heap.size r nn (w4.alloc (.cells #[.int .u8 cc.k, .slice cc.pa cc.pl cc.pc, .string cc.key, .int .i64 cc.i, .int .i64 cc.j, .int .i64 cc.n, .int .u8 cc.v.k, .int .i64 cc.v.n, .string cc.v.s, .slice cc.v.la cc.v.ll cc.v.lc, .slice cc.v.oa cc.v.ol cc.v.oc, .string cc.s] t)) cc:=by have hal:uB w4 (w4.alloc (.cells #[.int .u8 cc.k, .slice cc.pa cc.pl cc.pc, .string cc.key, .int .i64 cc.i, .int .i64 cc.j, .int .i64 cc.n, .int .u8 cc.v.k, .int .i64 cc.v.n, .string cc.v.s, .slice cc.v.la cc.v.ll cc.v.lc, .slice cc.v.oa cc.v.ol cc.v.oc, .string cc.s] t)):=(zzc _ _).alloc (zza _) _;exact ⟨BC.start w4 #[.int .u8 cc.k, .slice cc.pa cc.pl cc.pc, .string cc.key, .int .i64 cc.i, .int .i64 cc.j, .int .i64 cc.n, .int .u8 cc.v.k, .int .i64 cc.v.n, .string cc.v.s, .slice cc.v.la cc.v.ll cc.v.lc, .slice cc.v.oa cc.v.ol cc.v.oc, .string cc.s] t,h.alloc hz _,hz,ho.step hzz hal.size fun k _ hl=>hal.block k hl⟩
theorem zj5 {w w4:World} {r:Option Cm} {nn:Int} {z:Nat} (h:Below w.heap.size w.drew w4) (cc:CC) (x:BC w4 w.heap.size [.int .u8 0, .slice none 0 0, .string { data:= #[] }, .int .i64 0, .int .i64 0, .int .i64 0, .int .u8 0, .int .i64 0, .string { data:= #[] }, .slice none 0 0, .slice none 0 0, .string { data:= #[] }]) (ho:OneRes z r nn w4 cc) (hzz:w.heap.size+1<=z):BC ((((((((((((w4.setCell ⟨w.heap.size,0,none⟩ (.int .u8 cc.k)).setCell ⟨w.heap.size,1,none⟩ (.slice cc.pa cc.pl cc.pc)).setCell ⟨w.heap.size,2,none⟩ (.string cc.key)).setCell ⟨w.heap.size,3,none⟩ (.int .i64 cc.i)).setCell ⟨w.heap.size,4,none⟩ (.int .i64 cc.j)).setCell ⟨w.heap.size,5,none⟩ (.int .i64 cc.n)).setCell ⟨w.heap.size,6,none⟩ (.int .u8 cc.v.k)).setCell ⟨w.heap.size,7,none⟩ (.int .i64 cc.v.n)).setCell ⟨w.heap.size,8,none⟩ (.string cc.v.s)).setCell ⟨w.heap.size,9,none⟩ (.slice cc.v.la cc.v.ll cc.v.lc)).setCell ⟨w.heap.size,10,none⟩ (.slice cc.v.oa cc.v.ol cc.v.oc)).setCell ⟨w.heap.size,11,none⟩ (.string cc.s)) w.heap.size (ccells cc)/\Below w.heap.size w.drew ((((((((((((w4.setCell ⟨w.heap.size,0,none⟩ (.int .u8 cc.k)).setCell ⟨w.heap.size,1,none⟩ (.slice cc.pa cc.pl cc.pc)).setCell ⟨w.heap.size,2,none⟩ (.string cc.key)).setCell ⟨w.heap.size,3,none⟩ (.int .i64 cc.i)).setCell ⟨w.heap.size,4,none⟩ (.int .i64 cc.j)).setCell ⟨w.heap.size,5,none⟩ (.int .i64 cc.n)).setCell ⟨w.heap.size,6,none⟩ (.int .u8 cc.v.k)).setCell ⟨w.heap.size,7,none⟩ (.int .i64 cc.v.n)).setCell ⟨w.heap.size,8,none⟩ (.string cc.v.s)).setCell ⟨w.heap.size,9,none⟩ (.slice cc.v.la cc.v.ll cc.v.lc)).setCell ⟨w.heap.size,10,none⟩ (.slice cc.v.oa cc.v.ol cc.v.oc)).setCell ⟨w.heap.size,11,none⟩ (.string cc.s))/\w.heap.size<=w.heap.size/\OneRes w.heap.size r nn ((((((((((((w4.setCell ⟨w.heap.size,0,none⟩ (.int .u8 cc.k)).setCell ⟨w.heap.size,1,none⟩ (.slice cc.pa cc.pl cc.pc)).setCell ⟨w.heap.size,2,none⟩ (.string cc.key)).setCell ⟨w.heap.size,3,none⟩ (.int .i64 cc.i)).setCell ⟨w.heap.size,4,none⟩ (.int .i64 cc.j)).setCell ⟨w.heap.size,5,none⟩ (.int .i64 cc.n)).setCell ⟨w.heap.size,6,none⟩ (.int .u8 cc.v.k)).setCell ⟨w.heap.size,7,none⟩ (.int .i64 cc.v.n)).setCell ⟨w.heap.size,8,none⟩ (.string cc.v.s)).setCell ⟨w.heap.size,9,none⟩ (.slice cc.v.la cc.v.ll cc.v.lc)).setCell ⟨w.heap.size,10,none⟩ (.slice cc.v.oa cc.v.ol cc.v.oc)).setCell ⟨w.heap.size,11,none⟩ (.string cc.s)) cc:=by have st:=Yk w4 w.heap.size cc;exact ⟨Zp (c0:=czero) x cc,Below.setC h (zza _) cc,zza _,ho.step (by omega) st.size fun k hk hl=>st.block k hl (by omega)⟩
structure AH (w wr:World) (v0:V) (l:List Ac) (j:Nat) (x:V) (cx:VC) (u:Value) (xs:List Cm) (cs:List CC):Prop where
 rd:xs++aimP x (l.drop j)=aimP v0 l
 cen:cs.length=xs.length
 few:xs.length<=j
 wt:x.weight<=20000+20100*j
 box:BC wr w.heap.size (vcells cx)
 val:IsVal (only (fun k=>k≠w.heap.size/\some k≠u.ownBlock) wr) wr.heap.size x cx
 row:RowC wr (w.heap.size+1) u xs cs
 below:Below w.heap.size w wr
theorem AH.start {w:World} {v0:V} {c:VC} {t:TypeId} (l:List Ac) (hv:IsVal w w.heap.size v0 c) (hw:v0.weight<=20000):AH w (w.alloc (.cells #[.int .u8 c.k, .int .i64 c.n, .string c.s, .slice c.la c.ll c.lc, .slice c.oa c.ol c.oc] t)) v0 l 0 v0 c (.slice none 0 0) [] [] :=by have hal:uB w (w.alloc (.cells #[.int .u8 c.k, .int .i64 c.n, .string c.s, .slice c.la c.ll c.lc, .slice c.oa c.ol c.oc] t)):=(zzc _ _).alloc (zza _) _;exact ⟨rfl,rfl,zza _,by omega,BC.start _ _ _,(hv.sub fun b o u hb hc=>Z2 ⟨by omega,by simp [Value.ownBlock]⟩ ((World.cell?_of_block (hal.block b hb)).trans hc)).more hal.size,Row.nil _ _ _ _ _,hal⟩
theorem AH.skip {w wr W:World} {v0:V} {l:List Ac} {j:Nat} {x:V} {cx:VC} {u:Value} {xs:List Cm} {cs:List CC} (h:AH w wr v0 l j x cx u xs cs) (hb:uB wr W) (hrd:aimP x (l.drop j)=aimP x (l.drop (j+1))):AH w W v0 l (j+1) x cx u xs cs:=
 ⟨by rw [<-hrd];exact h.rd,h.cen,by have:=h.few;omega,by have:=h.wt;omega,h.box.keep hb h.box.lt,Zy h.val rfl hb.size fun k hk hl=>⟨hk,hb.block k hl⟩,h.row.later (PC.closed _ _) (.of_below w.heap.size hb) (by omega),h.below.trans (hb.mono h.below.size)⟩
structure AM (w wr W:World) (x y:V) (cm:Cm) (cy:VC) (cc:CC) (u:Value) (xs:List Cm) (cs:List CC):Prop where
 box:BC W w.heap.size (vcells cy)
 val:IsVal (only (fun k=>wr.heap.size<=k) W) W.heap.size y cy
 cmp:IsComp (only (fun k=>wr.heap.size<=k) W) W.heap.size cm cc
 row:RowC W (w.heap.size+1) u xs cs
 below:Below w.heap.size w W
theorem AH.mid {w wr W5 W6:World} {v0:V} {l:List Ac} {j:Nat} {x y:V} {cx cy:VC} {u:Value} {xs:List Cm} {cs:List CC} {cm:Cm} {cc:CC} (h:AH w wr v0 l j x cx u xs cs) (hb:uB wr W5) (hc:IsComp (only (fun k=>wr.heap.size<=k) W5) W5.heap.size cm cc) (hb6:uB W5 W6) (hy:IsVal (only (fun k=>W5.heap.size<=k) W6) W6.heap.size y cy) (o:Obj):
 AM w wr ((setV W6 w.heap.size 0 cy).alloc o) x y cm cy cc u xs cs:=by
 have st:=Zh W6 w.heap.size 0 cy;have hal:uB (setV W6 w.heap.size 0 cy) ((setV W6 w.heap.size 0 cy).alloc o):=(zzc _ _).alloc (zza _) _;have hlo:=h.box.lt;have hz1:=hb.size;have hz2:=hb6.size;have hz3:=st.size;have hz4:=hal.size;have hbA:uB wr W6:=hb.trans (hb6.mono hz1);have sA:RStep W6 ((setV W6 w.heap.size 0 cy).alloc o) w.heap.size:=st.trans (RStep.of_below _ hal);refine ⟨(Zx (h.box.keep hbA hlo) cy).keep hal (by omega),Zy hy rfl sA.size fun k hk hl=>⟨by omega,sA.block k hl (by omega)⟩,Y5 hc rfl (zzl hz2 sA.size) fun k hk hl=>⟨hk,(sA.block k (by omega) (by omega)).trans (hb6.block k hl)⟩,(h.row.later (PC.closed _ _) (.of_below w.heap.size hbA) (by omega)).later (PC.closed _ _) sA (by omega),(Below.set5' (h.below.trans (hbA.mono (by omega))) (zza _) _ _ _ _ _).trans (hal.mono (by omega))⟩
theorem zg9 {a b j:Nat} (h:a<=20000+20100*j) (hw:b<=a+20100):b<=20000+20100*(j+1):=by rw [Nat.mul_succ, <-Nat.add_assoc];exact zzl hw (Nat.add_le_add_right h 20100)
theorem AH.round {w wr w7 w9:World} {v0:V} {l:List Ac} {j:Nat} {x y:V} {cx cy:VC} {a:Option Addr} {m c:Nat} {xs:List Cm} {cs:List CC} {cm:Cm} {cc:CC} {g cap:Nat} {t:TypeId}
 (h:AH w wr v0 l j x cx (.slice a m c) xs cs) (hm:AM w wr w7 x y cm cy cc (.slice a m c) xs cs) (hz:wr.heap.size<=w7.heap.size) (hrd:aimP x (l.drop j)=cm::aimP y (l.drop (j+1))) (hw:y.weight<=x.weight+20100)
 (hown:w9.ownsRow (w.heap.size+1) 54 12 (.slice (some ⟨g,0,none⟩) (xs.length+1) cap) (xs.length+1) (cs.flatMap ccells++ccells cc)) (hg:(w7.alloc (.cells #[.int .u8 cc.k, .slice cc.pa cc.pl cc.pc, .string cc.key, .int .i64 cc.i, .int .i64 cc.j, .int .i64 cc.n, .int .u8 cc.v.k, .int .i64 cc.v.n, .string cc.v.s, .slice cc.v.la cc.v.ll cc.v.lc, .slice cc.v.oa cc.v.ol cc.v.oc, .string cc.s] t)).grownBy w9 (Value.slice a m c).ownBlock)
 (hat:(Value.slice a m c).ownBlock=some g∨g=w7.heap.size+1):
 AH w w9 v0 l (j+1) y cy (.slice (some ⟨g,0,none⟩) (xs.length+1) cap) (xs++ [cm]) (cs++ [cc]):=by
 have hrlt:∀b,(Value.slice a m c).ownBlock=some b->w.heap.size+1<=b/\b<wr.heap.size:=h.row.lt;have hba:uB w7 (w7.alloc (.cells #[.int .u8 cc.k, .slice cc.pa cc.pl cc.pc, .string cc.key, .int .i64 cc.i, .int .i64 cc.j, .int .i64 cc.n, .int .u8 cc.v.k, .int .i64 cc.v.n, .string cc.v.s, .slice cc.v.la cc.v.ll cc.v.lc, .slice cc.v.oa cc.v.ol cc.v.oc, .string cc.s] t)):=(zzc _ _).alloc (zza _) _;have hgb:Below (w.heap.size+1) (w7.alloc (.cells #[.int .u8 cc.k, .slice cc.pa cc.pl cc.pc, .string cc.key, .int .i64 cc.i, .int .i64 cc.j, .int .i64 cc.n, .int .u8 cc.v.k, .int .i64 cc.v.n, .string cc.v.s, .slice cc.v.la cc.v.ll cc.v.lc, .slice cc.v.oa cc.v.ol cc.v.oc, .string cc.s] t)) w9:=Zi hg (fun b hb=>(hrlt b hb).1) (by rw [zzk];have:=h.box.lt;omega);have hlt:=h.box.lt;have hb79:Below (w.heap.size+1) w7 w9:=(hba.mono (by omega)).trans hgb;obtain ⟨s1,s2⟩:=PC.snoc (l:=xs) (cs:=cs) h.cen cm cc;have hnew:PC (xs++ [cm]) (cs++ [cc]) (only (Free (w.heap.size+1) (.slice a m c)) w7) w7.heap.size xs.length:=s1 _ _ (hm.cmp.sub (Zc fun b hb _=>⟨⟨by omega,fun e=>by have:=(hrlt b e.symm).2;omega⟩,rfl⟩));have hpush:=Row.push (PC.closed (xs++ [cm]) (cs++ [cc])) hm.row hba hg (u':= .slice (some ⟨g,0,none⟩) (xs.length+1) cap) (news:=ccells cc) hown (by
  rcases hat with e|e
  .left;rw [e];rfl
  .right;intro b hb;have:g=b:=by simpa [Value.ownBlock] using hb
   omega) hnew s2
 refine ⟨?_,by simp [h.cen],by rw [zze,List.length_singleton];have:=h.few;omega,zg9 h.wt hw,hm.box.keep hb79 (by omega), ?_, ?_,hm.below.trans (hb79.mono (by omega))⟩
 .rw [<-h.rd,hrd,List.append_assoc];rfl
 .refine Zy hm.val rfl hb79.size fun k hk hl=>⟨⟨by omega,fun e=> ?_⟩, ?_⟩
  .have e2:k=g:=by simpa [Value.ownBlock] using e
   rcases hat with e3|e3
   .have:=(hrlt g e3).2;omega
   .omega
  .refine (hg.block k (by simp;omega) fun e=> ?_).trans (hba.block k hl);have:=(hrlt k e.symm).2;omega
 .show Row _ _ _ _ _ _ _ _;rw [Yr,zze,List.length_singleton];exact hpush
theorem Qt (w:World) (d:CC) (t:TypeId):∀j u,(ccells d)[j]? =some u->(w.alloc (.cells #[.int .u8 d.k, .slice d.pa d.pl d.pc, .string d.key, .int .i64 d.i, .int .i64 d.j, .int .i64 d.n, .int .u8 d.v.k, .int .i64 d.v.n, .string d.v.s, .slice d.v.la d.v.ll d.v.lc, .slice d.v.oa d.v.ol d.v.oc, .string d.s] t)).cell? ((⟨w.heap.size,0,none⟩:Addr).add j)=some u:=
 World.news_of_block (t:=t) (fr:=(0,0)) (heap_alloc_new w (.cells #[.int .u8 d.k, .slice d.pa d.pl d.pc, .string d.key, .int .i64 d.i, .int .i64 d.j, .int .i64 d.n, .int .u8 d.v.k, .int .i64 d.v.n, .string d.v.s, .slice d.v.la d.v.ll d.v.lc, .slice d.v.oa d.v.ol d.v.oc, .string d.s] t))
def AimPost (w:World) (l:List Cm) (e:Ending) (w':World):Prop:=
 (∃a n c,e= .returned (.slice a n c)/\IsComps (only (fun b=>w.heap.size<=b) w') w'.heap.size l a n c)/\Below w.heap.size w w'
theorem za2 {c:Cm} (hk:kIs c.k=true) (hb:c.bare=⟨c.k,c.path, .empty,0,0,0,V.none, .empty⟩) (hp:pathSound c.path=true) (h1:Lib.validD c.key.data.toList=true) (h2:Lib.validD c.s.data.toList=true) (hi:0<=c.i) (hj:0<=c.j) (h8:c.k=8->c.s.toList≠ []) (h9:c.k=9->1<=c.n) (hv:c.v.sound=true) (hd:c.path.length+1+c.v.deep<=16) (hw:c.v.weight<=20000):cmSound c=true:=by
 unfold cmSound;rw [hk,Xd hb,hp,h1,h2,decide_eq_true hi,decide_eq_true hj,hv,decide_eq_true hd,decide_eq_true hw];have e8:(c.k==8 && c.s.toList.isEmpty)=false:=by
  by_cases e:c.k=8
  .have:=h8 e
   cases hq:c.s.toList with
   |nil=>exact absurd hq this
   |cons a b=>simp
  .simp [e]
 have e9:(c.k==9 && decide (c.n<1))=false:=by
  by_cases e:c.k=9
  .have:=h9 e;simp;omega
  .simp [e]
 rw [e8,e9];rfl
theorem zhc:V.none.deep<=1:=by simp [V.none,V.deep,deepL,deepO]
theorem Kp {v x:V} {c:Cm} (hs:cmSound c=true) (hg:getP v c.path=some x) (hk:kindsP x c.k c.i c.j c.n c.key=0):checkP v c=0:=by unfold checkP;rw [hs,if_neg (by simp)];simp only [hg];exact hk
def kA:ByteArray:= { data:= #[97] }
def kvI (n:Int):V:= .mk 2 n .empty [] []
def kvV:V:= .mk 5 0 .empty [] [(kA,kvI 1)]
theorem ze4 (n:Int):(kvI n).sound=true:=Z3.2 ⟨by simp [plainB,ByteArray.toList_eq],by rfl,(fun v h=>by cases h),(fun f h=>by cases h)⟩
theorem Kt:Lib.validD kA.data.toList=true:=zcs (fun b h=>by simp [kA] at h;subst h;decide)
theorem zmb:kvV.sound=true:=Z3.2 ⟨by simp [plainB,ByteArray.toList_eq],by rfl,(fun v h=>by cases h),(fun f h=>by
 rw [List.mem_singleton] at h;subst h;exact ⟨Kt,ze4 1⟩)⟩
theorem zcd:kvV.weight=3:=by have:kA.size=1:=rfl;simp [kvV,kvI,V.weight,weightL,weightO,weightF,this]
theorem zmt:Op.bytesLess kA.toList kA.toList=false:=by rw [ByteArray.toList_eq];rfl
theorem zbd:fieldK [(kA,kvI 1)] kA=0/\fieldIs [(kA,kvI 1)] kA=true:=by
 have h1:fieldK [(kA,kvI 1)] kA=0:=by unfold fieldK;rw [List.takeWhile_cons,if_neg (by rw [zmt];simp)];rfl
 exact ⟨h1,by unfold fieldIs;rw [h1];simp⟩
def kc2:Cm:=⟨1, [⟨false,0,kA⟩], .empty,0,0,2,V.none, .empty⟩
theorem Qz (w:World) (B:Nat) (k n:Int) (hk:0<=k/\k<256) (hn: -9223372036854775808<=n/\n<=9223372036854775807):IsVal w B (.mk k n .empty [] []) ⟨k,n, .empty,none,0,0,none,0,0⟩:=
 Y9 hk.1 hk.2 hn.1 hn.2 (by decide) ⟨rfl,by decide,by decide,by decide,0,0,fun _=>vzero,fun h=>absurd h (by decide),fun i h=>absurd h (by simp)⟩ (zay w B)
theorem zdu (W:World) (b:Nat) (h:BC W b (fcells (kA,⟨2,1, .empty,none,0,0,none,0,0⟩))):IsVal W W.heap.size kvV ⟨5,0, .empty,none,0,0,some ⟨b,0,none⟩,1,1⟩:=
 Y9 (by decide) (by decide) (by decide) (by decide) (by decide) ⟨rfl,by decide,by decide,by decide,0,0,fun _=>vzero,fun h=>absurd h (by decide),fun i h=>absurd h (by simp)⟩ ⟨rfl,by decide,by decide,by decide,b,0,fun _=>⟨2,1, .empty,none,0,0,none,0,0⟩,fun _=>⟨rfl,h.lt⟩,fun i hi=>by
  have h0:i=0:=by simpa using hi
  subst h0;exact ⟨h.at_ 0 _ rfl,(show kA.size<=140737488355328 by decide),⟨h.at_ 1 _ rfl,h.at_ 2 _ rfl,h.at_ 3 _ rfl,h.at_ 4 _ rfl,h.at_ 5 _ rfl⟩,Qz W _ 2 1 (by decide) (by decide)⟩⟩
theorem Z8 {a b:ByteArray} (h:a.data.toList=b.data.toList):a=b:=by cases a;cases b;congr;exact Array.ext' h
theorem Zu (a b:ByteArray):(a++b).data.toList=a.data.toList++b.data.toList:=by simp
theorem Xc (s:ByteArray):s.data.toList.length=s.size:=Array.length_toList
theorem zaf (b:List UInt8):∀(n i:Nat) (a:List UInt8),a.length<=n->Lib.validD a=true->cutsP (a++b).length i (a++b)=cutsP a.length i a++cutsP b.length (i+a.length) b:=by
 intro n
 induction n with
 |zero=>intro i a ha _;obtain rfl:a= [] :=List.length_eq_zero_iff.1 (by omega);simp [cutsP]
 | succ n ih=>
   intro i a ha hv;by_cases hne:a= []
   .subst hne;simp [cutsP]
   have hw:=Lib.decodeL_width a;have hf:=J8 hne;rw [Lib.validD_step a hne] at hv;by_cases hbad:(Lib.decodeL a).1=65533/\(Lib.decodeL a).2=1
   .rw [if_pos hbad] at hv;cases hv
   rw [if_neg hbad] at hv;have e:Lib.decodeL (a++b)=Lib.decodeL a:=Kk hbad (by rw [zze];omega) fun i hi=>by rw [zzb,zzb,List.getElem?_append_left (by omega)]
   rw [Y3 (show a++b≠ [] by simp [hne]),Y3 hne,e,List.drop_append_of_le_length hf,ih _ _ (by rw [zzf];omega) hv,List.cons_append];rw [show i+(Lib.decodeL a).2+(a.drop (Lib.decodeL a).2).length=i+a.length by rw [zzf];omega]
theorem Xr (s:ByteArray):textN s=(cutsP s.data.toList.length 0 s.data.toList).length:=by rw [Xc,textN,cuts,zze];simp
theorem K6 (f d:Nat) (l:List UInt8):(cutsP f d l).length=(cutsP f 0 l).length:=by have:=zcm d f 0 l;rw [Nat.zero_add] at this;rw [this,List.length_map]
theorem Xx {a:ByteArray} (b:ByteArray) (h:Lib.validD a.data.toList=true):textN (a++b)=textN a+textN b:=by rw [Xr,Xr,Xr,Zu,zaf _ _ _ _ (zza _) h,zze,K6 _ (0+_)]
theorem Xo {a:ByteArray} (b:ByteArray) (h:Lib.validD a.data.toList=true):(cuts (a++b)).getD (textN a) 0=a.size:=by
 have hz:(a++b).size=a.size+b.size:=ByteArray.size_append;rw [cuts, <-Xc (a++b),Zu,zaf _ _ _ _ (zza _) h,List.append_assoc,zzb,List.getElem?_append_right (by rw [Xr];omega),Xr,Nat.sub_self];by_cases hb:b.data.toList= []
 .rw [hb];have:=Xc a;simp [cutsP,this]
 .rw [Y3 hb,List.cons_append];have:=Xc a;simp [this]
theorem zjl:∀(i:Nat) (l:List UInt8),Lib.validD l=true->i<=(cutsP l.length 0 l).length->∃a b,l=a++b/\Lib.validD a=true/\Lib.validD b=true/\(cutsP a.length 0 a).length=i:=by
 intro i
 induction i with
 |zero=>intro l hv _;exact ⟨[],l,rfl,rfl,hv,rfl⟩
 | succ i ih=>
   intro l hv hi;have hne:l≠ [] :=fun e=>by subst e;simp [cutsP] at hi
   have hw:=Lib.decodeL_width l;have hf:=J8 hne;have h0:0<l.length:=List.length_pos_iff.2 hne;rw [Y3 hne,List.length_cons,K6] at hi;rw [Lib.validD_step l hne] at hv;by_cases hbad:(Lib.decodeL l).1=65533/\(Lib.decodeL l).2=1
   .rw [if_pos hbad] at hv;cases hv
   rw [if_neg hbad] at hv;obtain ⟨a,b,h1,h2,h3,h4⟩:=ih _ hv (by omega);have e:Lib.decodeL (l.take (Lib.decodeL l).2)=Lib.decodeL l:=Kk hbad (by rw [zzd];omega) fun j hj=>by rw [zzb,zzb,List.getElem?_take_of_lt hj]
   have hn2:l.take (Lib.decodeL l).2≠ [] :=fun h=>by have:=congrArg List.length h;rw [zzd,List.length_nil] at this;omega
   have hd:(l.take (Lib.decodeL l).2).drop (Lib.decodeL l).2= [] :=List.drop_eq_nil_of_le (by rw [zzd];omega);have hk:Lib.validD (l.take (Lib.decodeL l).2)=true:=by rw [Lib.validD_step _ hn2,e,if_neg hbad,hd];rfl
   refine ⟨l.take (Lib.decodeL l).2++a,b,by rw [List.append_assoc, <-h1,List.take_append_drop],by rw [Xs _ _ _ (zza _) hk];exact h2,h3, ?_⟩;rw [zaf _ _ _ _ (zza _) hk,zze,K6 _ (0+_),h4,Y3 hn2,e,hd];simp [cutsP];omega
theorem Ki {s:ByteArray} (hv:Lib.validD s.data.toList=true) {i:Nat} (hi:i<=textN s):∃a b:ByteArray,s=a++b/\Lib.validD a.data.toList=true/\Lib.validD b.data.toList=true/\textN a=i:=by rw [Xr] at hi;obtain ⟨a,b,h1,h2,h3,h4⟩:=zjl i _ hv hi;refine ⟨⟨a.toArray⟩,⟨b.toArray⟩,Z8 (by rw [Zu];exact h1),h2,h3,by rw [Xr];exact h4⟩
theorem ext3 (a m b:ByteArray):(a++m++b).extract 0 a.size=a/\(a++m++b).extract a.size (a++m).size=m/\(a++m++b).extract a.size (a++m++b).size=m++b/\(a++m++b).extract (a++m).size (a++m++b).size=b:=by
 have z1:=Xc a;have z2:=Xc (a++m);have z3:=Xc (a++m++b);refine ⟨Z8 ?_,Z8 ?_,Z8 ?_,Z8 ?_⟩
 .rw [Xh,Zu,Zu,List.append_assoc, <-z1,List.take_left];rfl
 .rw [Xh,Zu, <-z2,List.take_left,Zu, <-z1,List.drop_left]
 .rw [Xh, <-z3,List.take_length,Zu,Zu,List.append_assoc, <-z1,List.drop_left,Zu]
 .rw [Xh, <-z3,List.take_length,Zu, <-z2,List.drop_left]
theorem zhw {t s:ByteArray} (ht:Lib.validD t.data.toList=true) (hs:Lib.validD s.data.toList=true) {i:Int} (h0:0<=i) (hi:i<=textN t) (n:Int):
 textDo (textDo t 8 i n s) 9 i (textN s) .empty=t/\partT (textDo t 8 i n s) i (textN s)=s/\textN (textDo t 8 i n s)=textN t+textN s:=by
 obtain ⟨I,rfl⟩:∃I:Nat,i=I:=⟨i.toNat,by omega⟩;obtain ⟨a,b,rfl,ha,hb,rfl⟩:=Ki ht (i:=I) (by omega);have e1:textDo (a++b) 8 (textN a) n s=a++s++b:=by have:=ext3 a .empty b;rw [show a++ByteArray.empty=a from Z8 (by rw [Zu];simp)] at this;unfold textDo;rw [if_pos rfl,Int.toNat_natCast,Xo b ha,this.1,this.2.2.2]
 have c1:(cuts (a++s++b)).getD (textN a) 0=a.size:=by rw [show a++s++b=a++(s++b) from Z8 (by simp)];exact Xo _ ha
 have has:Lib.validD (a++s).data.toList=true:=by rw [Zu,Xs _ _ _ (zza _) ha];exact hs
 have c2:(cuts (a++s++b)).getD (textN a+textN s) 0=(a++s).size:=by rw [<-Xx s ha];exact Xo _ has
 obtain ⟨x1,x2,x3,x4⟩:=ext3 a s b;rw [e1];refine ⟨?_, ?_, ?_⟩
 .unfold textDo;rw [if_neg (by decide), <-Int.natCast_add,Int.toNat_natCast,Int.toNat_natCast,c1,c2,x1,x4]
 .unfold partT;rw [<-Int.natCast_add,Int.toNat_natCast,Int.toNat_natCast,c1,c2,x2]
 .rw [Xx b has,Xx s ha,Xx b ha];omega
theorem zm5 {t:ByteArray} (ht:Lib.validD t.data.toList=true) {i n:Int} (h0:0<=i) (h1:1<=n) (hi:i+n<=textN t) (k:Int):
 textDo (textDo t 9 i n .empty) 8 i k (partT t i n)=t/\(textN (partT t i n):Int)=n/\i<=textN (textDo t 9 i n .empty)/\Lib.validD (partT t i n).data.toList=true:=by
 obtain ⟨I,rfl⟩:∃I:Nat,i=I:=⟨i.toNat,by omega⟩;obtain ⟨J,rfl⟩:∃J:Nat,n=J:=⟨n.toNat,by omega⟩;obtain ⟨am,b,rfl,ham,hb,hN⟩:=Ki ht (i:=I+J) (by omega);obtain ⟨a,m,rfl,ha,hm,rfl⟩:=Ki ham (i:=I) (by omega);have hJ:textN m=J:=by rw [Xx m ha] at hN;omega
 subst hJ;have c1:(cuts (a++m++b)).getD (textN a) 0=a.size:=by rw [show a++m++b=a++(m++b) from Z8 (by simp)];exact Xo _ ha
 have c2:(cuts (a++m++b)).getD (textN a+textN m) 0=(a++m).size:=by rw [<-Xx m ha];exact Xo _ ham
 obtain ⟨x1,x2,x3,x4⟩:=ext3 a m b;have e1:textDo (a++m++b) 9 (textN a) (textN m) .empty=a++b:=by unfold textDo;rw [if_neg (by decide), <-Int.natCast_add,Int.toNat_natCast,Int.toNat_natCast,c1,c2,x1,x4]
 have e2:partT (a++m++b) (textN a) (textN m)=m:=by unfold partT;rw [<-Int.natCast_add,Int.toNat_natCast,Int.toNat_natCast,c1,c2,x2]
 rw [e1,e2];refine ⟨?_,rfl,by rw [Xx b ha];omega,hm⟩;have:=ext3 a .empty b;rw [show a++ByteArray.empty=a from Z8 (by rw [Zu];simp)] at this;unfold textDo;rw [if_pos rfl,Int.toNat_natCast,Xo b ha,this.1,this.2.2.2]
theorem zde {key:ByteArray} {a r:List (ByteArray×V)} (h:∀f ∈ a,Op.bytesLess f.1.toList key.toList=true) (hr:∀f,r[0]? =some f->Op.bytesLess f.1.toList key.toList=false):fieldK (a++r) key=a.length:=by
 refine Q6 _ _ _ (fun i hi hij=> ?_) (by rw [zze];omega) ?_
 .rw [List.getElem_append_left hij];exact h _ (List.getElem_mem _)
 .cases r with
  |nil=>exact .inl (by simp)
  |cons f r=>exact .inr ⟨by simp,by rw [List.getElem_append_right (zza _)];simpa using hr f rfl⟩
theorem zia (x:List UInt8):Op.bytesLess x x=false:=by
 cases h:Op.bytesLess x x with
 |false=>rfl
 |true=>exact absurd rfl (Qa _ _ h).2
theorem zbk (o:List (ByteArray×V)) (key:ByteArray):∀f ∈ o.take (fieldK o key),Op.bytesLess f.1.toList key.toList=true:=fun f hf=>by have hp:o.takeWhile (fun f=>Op.bytesLess f.1.toList key.toList)=o.take (fieldK o key):=List.prefix_iff_eq_take.1 (List.takeWhile_prefix _);rw [<-hp] at hf;have:=List.all_takeWhile (p:=fun f:ByteArray×V=>Op.bytesLess f.1.toList key.toList) (l:=o);exact List.all_eq_true.1 this f hf
theorem Km (o:List (ByteArray×V)) (key:ByteArray) (v:V):fieldK (withF o key v) key=fieldK o key/\fieldIs (withF o key v) key=true/\(withF o key v).getD (fieldK o key) (.empty,V.none)=(key,v):=by
 have hl:(o.take (fieldK o key)).length=fieldK o key:=by rw [zzd,Nat.min_eq_left (Yb o key)]
 have hk:fieldK (withF o key v) key=fieldK o key:=by rw [withF,zde (zbk o key) (fun f hf=>by simp at hf;subst hf;exact zia _),hl]
 have hg:(withF o key v)[fieldK o key]? =some (key,v):=by rw [withF,List.getElem?_append_right (by omega),hl,Nat.sub_self];rfl
 refine ⟨hk, ?_,by rw [zzb,hg];rfl⟩;unfold fieldIs;rw [hk,hg];simp
theorem za6 (o:List (ByteArray×V)) (key:ByteArray) (v:V):(withF o key v).take (fieldK o key)=o.take (fieldK o key)/\(withF o key v).drop (fieldK o key+1)=o.drop (if fieldIs o key=true then fieldK o key+1 else fieldK o key):=by
 have hl:(o.take (fieldK o key)).length=fieldK o key:=by rw [zzd,Nat.min_eq_left (Yb o key)]
 unfold withF;refine ⟨List.take_left' hl, ?_⟩;rw [<-List.drop_drop,List.drop_left' hl];rfl
theorem zdg {o:List (ByteArray×V)} {key:ByteArray} (h:fieldIs o key=true):o.drop (fieldK o key)=(key,(o.getD (fieldK o key) (.empty,V.none)).2)::o.drop (fieldK o key+1):=by
 have hk:=Yf h;have h1:=zpe (zc1 h);rw [List.drop_eq_getElem_cons hk];have h2:o[fieldK o key] =o.getD (fieldK o key) (.empty,V.none):=by rw [zzb,zzg hk];rfl
 rw [h2]
 congr 1
 exact Prod.ext h1 rfl
theorem zo1 {o:List (ByteArray×V)} {key:ByteArray} (v:V) (h:fieldIs o key=true):withF (withF o key v) key (o.getD (fieldK o key) (.empty,V.none)).2=o:=by obtain ⟨h1,h2,h3⟩:=Km o key v;obtain ⟨t1,t2⟩:=za6 o key v;rw [withF,h1,h2,if_pos rfl,t1,t2,if_pos h, <-zdg h,List.take_append_drop]
theorem zmf {o:List (ByteArray×V)} {key:ByteArray} (v:V) (h:fieldIs o key=false):remF (withF o key v) key=o:=by obtain ⟨h1,h2,h3⟩:=Km o key v;obtain ⟨t1,t2⟩:=za6 o key v;rw [remF,h1,h2,if_pos rfl,t1,t2,if_neg (by rw [h];decide),List.take_append_drop]
theorem zcq {o:List (ByteArray×V)} {key:ByteArray} (hr:rising o=true) (h:fieldIs o key=true):fieldK (remF o key) key=fieldK o key/\fieldIs (remF o key) key=false:=by
 have hl:(o.take (fieldK o key)).length=fieldK o key:=by rw [zzd,Nat.min_eq_left (Yb o key)]
 have hkl:=Yf h;have hn:∀f,o[fieldK o key+1]? =some f->Op.bytesLess f.1.toList key.toList=false/\f.1.toList≠key.toList:=fun f hf=>by
  have h1:=Qb.1 hr _ _ _ (zzg hkl) hf;have h2:o[fieldK o key].1.toList=key.toList:=by
   have:=zc1 h
   rwa [zzb,zzg hkl] at this
  rw [h2] at h1;exact ⟨(Qa _ _ h1).1,fun e=>(Qa _ _ h1).2 e.symm⟩
 have hk:fieldK (remF o key) key=fieldK o key:=by rw [remF,if_pos h,zde (zbk o key) (fun f hf=> ?_),hl];rw [List.getElem?_drop,Nat.add_zero] at hf;exact (hn f hf).1
 refine ⟨hk, ?_⟩;have hg:(remF o key)[fieldK o key]? =o[fieldK o key+1]? :=by rw [remF,if_pos h,List.getElem?_append_right (by omega),hl,Nat.sub_self,List.getElem?_drop,Nat.add_zero]
 unfold fieldIs;rw [hk,hg]
 cases hq:o[fieldK o key+1]? with
 |none=>rfl
 |some f=>simpa using (hn f hq).2
theorem zk5 {o:List (ByteArray×V)} {key:ByteArray} (hr:rising o=true) (h:fieldIs o key=true):withF (remF o key) key (o.getD (fieldK o key) (.empty,V.none)).2=o:=by
 have hl:(o.take (fieldK o key)).length=fieldK o key:=by rw [zzd,Nat.min_eq_left (Yb o key)]
 obtain ⟨h1,h2⟩:=zcq hr h;rw [withF,h1,h2,if_neg (by decide),remF,if_pos h,List.take_left' hl,List.drop_left' hl, <-zdg h,List.take_append_drop]
theorem zb0 {α:Type} (l:List α) {i:Nat} (h:i<=l.length) (x d:α):remL (insL l i x) i=l/\(insL l i x).getD i d=x/\(insL l i x).length=l.length+1:=by
 have hl:(l.take i).length=i:=by rw [zzd,Nat.min_eq_left h]
 refine ⟨?_, ?_, ?_⟩
 .unfold remL insL;rw [List.take_left' hl, <-List.drop_drop,List.drop_left' hl];simp
 .unfold insL;rw [zzb,List.getElem?_append_right (by omega),hl,Nat.sub_self];rfl
 .unfold insL;simp;omega
theorem zaq {α:Type} (l:List α) {i:Nat} (h:i<l.length) (d:α):insL (remL l i) i (l.getD i d)=l/\(remL l i).length+1=l.length:=by
 have hl:(l.take i).length=i:=by rw [zzd];omega
 refine ⟨?_,by unfold remL;simp;omega⟩;unfold insL remL;rw [List.take_left' hl,List.drop_left' hl,zzb,zzg h];show l.take i++l[i] ::l.drop (i+1)=l;rw [<-List.drop_eq_getElem_cons h,List.take_append_drop]
theorem zkp {α:Type} (l:List α) {i:Nat} (h:i<l.length) (x d:α):(l.set i x).set i (l.getD i d)=l/\(l.set i x).getD i d=x:=by refine ⟨?_,by simp [h]⟩;rw [List.set_set,zzb,zzg h];exact List.set_getElem_self h
noncomputable def turnP (x:V) (c:Cm):Cm:=
 if c.k=1 then ⟨1,c.path, .empty,0,0,wrap64 (-c.n),V.none, .empty⟩
 else if c.k=2∨c.k=3 then (if fieldIs x.os c.key=true then ⟨2,c.path,c.key,0,0,0,(x.os.getD (fieldK x.os c.key) (.empty,V.none)).2, .empty⟩ else ⟨3,c.path,c.key,0,0,0,V.none, .empty⟩)
 else if c.k=4 then ⟨5,c.path, .empty,c.i,0,0,V.none, .empty⟩
 else if c.k=5 then ⟨4,c.path, .empty,c.i,0,0,x.ls.getD c.i.toNat V.none, .empty⟩
 else if c.k=6 then ⟨6,c.path, .empty,c.i,0,0,x.ls.getD c.i.toNat V.none, .empty⟩
 else if c.k=7 then ⟨7,c.path, .empty,c.j,c.i,0,V.none, .empty⟩
 else if c.k=8 then ⟨9,c.path, .empty,c.i,0,(textN c.s:Int),V.none, .empty⟩
 else ⟨8,c.path, .empty,c.i,0,0,V.none,partT x.str c.i c.n⟩
theorem zce {c:Cm} (h:eqB c.bare ⟨c.k,c.path, .empty,0,0,0,V.none, .empty⟩=true):(kKey c.k=false->c.key= .empty)/\(kI c.k=false->c.i=0)/\(kJ c.k=false->c.j=0)/\(kN c.k=false->c.n=0)/\(kV c.k=false->c.v=V.none)/\(kS c.k=false->c.s= .empty):=by have h2:=Xw h;rw [Cm.bare] at h2;injection h2 with a1 a2 a3 a4 a5 a6 a7 a8;exact ⟨fun e=>by rw [e] at a3;simpa using a3,fun e=>by rw [e] at a4;simpa using a4,fun e=>by rw [e] at a5;simpa using a5,fun e=>by rw [e] at a6;simpa using a6,fun e=>by rw [e] at a7;simpa using a7,fun e=>by rw [e] at a8;simpa using a8⟩
inductive V.Her (P:Int->Prop) (K:ByteArray->Prop):V->Prop
 |mk (k n:Int) (s:ByteArray) (l:List V) (o:List (ByteArray×V)) (hn:P n) (hl:∀x ∈ l,V.Her P K x) (hk:∀f ∈ o,K f.1) (ho:∀f ∈ o,V.Her P K f.2):V.Her P K (.mk k n s l o)
structure HerOk (P:Int->Prop) (K:ByteArray->Prop):Prop where
 zero:P 0
 wrap:∀n,P (wrap64 n)
 key:K .empty
variable {P:Int->Prop} {K:ByteArray->Prop}
theorem Jq (hp:HerOk P K):V.Her P K V.none:= .mk _ _ _ _ _ hp.zero (fun _ h=>by cases h) (fun _ h=>by cases h) (fun _ h=>by cases h)
theorem V.Her.nm {v:V} (h:V.Her P K v):P v.nm:=by cases h with|mk k n s l o hn hl hk ho=>exact hn
theorem V.Her.ls {v:V} (h:V.Her P K v):∀x ∈ v.ls,V.Her P K x:=by cases h with|mk k n s l o hn hl hk ho=>exact hl
theorem V.Her.os {v:V} (h:V.Her P K v):∀f ∈ v.os,K f.1/\V.Her P K f.2:=by cases h with|mk k n s l o hn hl hk ho=>exact fun f hf=>⟨hk f hf,ho f hf⟩
theorem zbl {v:V} {s:St} {x:V} {k:Nat} (hv:V.Her P K v) (h:stepP v s=some (x,k)):V.Her P K x:=by
 rcases Y7 h with ⟨_,_,_,hk,rfl⟩|⟨_,_,_,hk,rfl⟩
 .exact hv.ls _ (List.getElem_mem _)
 .exact (hv.os _ (List.getElem_mem _)).2
theorem Jk (p:List St):∀ {v x:V},V.Her P K v->getP v p=some x->V.Her P K x:=by
 induction p with
 |nil=>intro v x hv h;injection h with h;exact h ▸ hv
 | cons s r ih=>
   intro v x hv h;unfold getP at h
   cases hs:stepP v s with
   |none=>rw [hs] at h;cases h
   | some q=>obtain ⟨y,k⟩:=q;rw [hs] at h;exact ih (zbl hv hs) h
theorem zp5 {v z:V} {i:Nat} (hv:V.Her P K v) (hz:V.Her P K z):V.Her P K (v.setL i z):=by
 cases hv with
 | mk k n s l o hn hl hk ho=>
   refine .mk _ _ _ _ _ hn (fun x hx=> ?_) hk ho;rcases List.mem_or_eq_of_mem_set hx with h|h
   .exact hl x h
   .exact h ▸ hz
theorem zfk {v z:V} {i:Nat} (hp:HerOk P K) (hv:V.Her P K v) (hz:V.Her P K z):V.Her P K (v.setO i z):=by
 cases hv with
 | mk k n s l o hn hl hk ho=>
   have key:∀f ∈ putO o i z,K f.1/\V.Her P K f.2:=by
    intro f hf;unfold putO at hf;rcases List.mem_or_eq_of_mem_set hf with h|h
    .exact ⟨hk f h,ho f h⟩
    .subst h;refine ⟨?_,hz⟩;dsimp only;rw [zzb]
     cases hq:o[i]? with
     |none=>exact hp.key
     |some y=>exact hk y (List.mem_of_getElem? hq)
   exact .mk _ _ _ _ _ hn hl (fun f hf=>(key f hf).1) (fun f hf=>(key f hf).2)
theorem zoe (hp:HerOk P K) (p:List St):∀ {v x w:V},V.Her P K v->V.Her P K x->putP v p x=some w->V.Her P K w:=by
 induction p with
 |nil=>intro v x w _ hx h;injection h with h;exact h ▸ hx
 | cons s r ih=>
   intro v x w hv hx h;unfold putP at h
   cases hs:stepP v s with
   |none=>rw [hs] at h;cases h
   | some q=>
     obtain ⟨y,k⟩:=q;rw [hs] at h;dsimp only at h
     cases hq:putP y r x with
     |none=>rw [hq] at h;cases h
     | some z=>
       rw [hq] at h;dsimp only at h;injection h with h;have hz:=ih (zbl hv hs) hx hq;split at h
       .exact h ▸ zp5 hv hz
       .exact h ▸ zfk hp hv hz
theorem zgj {key:ByteArray} {v:V} (hk:K key) (hv:V.Her P K v) (o:List (ByteArray×V)):∀(s:List (ByteArray×V)×Bool),(∀f ∈ s.1,K f.1/\V.Her P K f.2)->(∀f ∈ o,K f.1/\V.Her P K f.2)->∀f ∈ (o.foldl (fldStep key v) s).1,K f.1/\V.Her P K f.2:=by
 induction o with
 |nil=>intro s hs _;exact hs
 | cons g o ih=>
   intro s hs ho;refine ih _ ?_ (fun f hf=>ho f (List.mem_cons_of_mem _ hf));have hg:=ho g List.mem_cons_self;have one:∀ {f x:ByteArray×V},(K x.1/\V.Her P K x.2)->f ∈ s.1++ [x] ->K f.1/\V.Her P K f.2:=by
    intro f x hx hf;rcases List.mem_append.1 hf with h|h
    .exact hs f h
    .rw [List.mem_singleton] at h;exact h ▸ hx
   intro f hf;unfold fldStep at hf;split at hf
   .split at hf
    .exact one (x:=(key,v)) ⟨hk,hv⟩ hf
    .rcases List.mem_append.1 hf with h|h
     .exact one (x:=(key,v)) ⟨hk,hv⟩ h
     .rw [List.mem_singleton] at h;exact h ▸ hg
   .split at hf
    .exact hs f hf
    .exact one hg hf
theorem zgr {key:ByteArray} {v:V} (hk:K key) (hv:V.Her P K v) (o:List (ByteArray×V)) (d:Bool) (ho:∀f ∈ o,K f.1/\V.Her P K f.2):∀f ∈ fieldsDo o key v d,K f.1/\V.Her P K f.2:=by
 have h:=zgj hk hv o ([],d) (fun f hf=>by cases hf) ho;unfold fieldsDo;split
 .intro f hf;rcases List.mem_append.1 hf with g|g
  .exact h f g
  .rw [List.mem_singleton] at g;exact g ▸ ⟨hk,hv⟩
 .exact h
theorem zpd (hp:HerOk P K) {l:List V} {k i j:Int} {v:V} (hl:∀x ∈ l,V.Her P K x) (hv:V.Her P K v):∀x ∈ listDo l k i j v,V.Her P K x:=by
 have hr:∀x ∈ remL l i.toNat,V.Her P K x:=by
  intro x hx;unfold remL at hx;rcases List.mem_append.1 hx with h|h
  .exact hl x (List.mem_of_mem_take h)
  .exact hl x (List.mem_of_mem_drop h)
 have hi:∀ {q:List V} {n:Nat} {y:V},(∀x ∈ q,V.Her P K x)->V.Her P K y->∀x ∈ insL q n y,V.Her P K x:=by
  intro q n y hq hy x hx;unfold insL at hx;rcases List.mem_append.1 hx with h|h
  .exact hq x (List.mem_of_mem_take h)
  .rcases List.mem_cons.1 h with h|h
   .exact h ▸ hy
   .exact hq x (List.mem_of_mem_drop h)
 unfold listDo;split
 .exact hi hl hv
 .split
  .exact hr
  .split
   .intro x hx;rcases List.mem_or_eq_of_mem_set hx with h|h
    .exact hl x h
    .exact h ▸ hv
   .refine hi hr ?_;rw [zzb]
    cases hq:l[i.toNat]? with
    |none=>exact Jq hp
    |some y=>exact hl y (List.mem_of_getElem? hq)
theorem zn1 (hp:HerOk P K) {x:V} {c:Cm} (hx:V.Her P K x) (hv:V.Her P K c.v) (hk:K c.key):V.Her P K (doneP x c):=by
 have hls:=hx.ls;have hos:=hx.os;have hn:=hx.nm;have ok:∀f ∈ x.os,K f.1:=fun f h=>(hos f h).1;have ov:∀f ∈ x.os,V.Her P K f.2:=fun f h=>(hos f h).2;unfold doneP;split
 .exact .mk _ _ _ _ _ (hp.wrap _) hls ok ov
 .split
  .have:=zgr hk hv x.os (c.k==3) hos;exact .mk _ _ _ _ _ hn hls (fun f h=>(this f h).1) (fun f h=>(this f h).2)
  .split
   .exact .mk _ _ _ _ _ hn hls ok ov
   .exact .mk _ _ _ _ _ hn (zpd hp hls hv) ok ov
theorem K0 (hp:HerOk P K) {v:V} {c:Cm} (hv:V.Her P K v) (hc:V.Her P K c.v) (hk:K c.key):V.Her P K (doP v c).1:=by
 unfold doP;split
 .cases hg:getP v c.path with
  |none=>exact Jq hp
  | some x=>
    dsimp only
    cases hq:putP v c.path (doneP x c) with
    |none=>exact Jq hp
    |some w=>exact zoe hp c.path hv (zn1 hp (Jk c.path hv hg) hc hk) hq
 .exact Jq hp
abbrev V.Nums:V->Prop:=V.Her (fun n=> -9223372036854775808<=n/\n<=9223372036854775807) (fun _=>True)
theorem zaa:HerOk (fun n=> -9223372036854775808<=n/\n<=9223372036854775807) (fun _=>True):=⟨by decide,fun n=>by unfold wrap64;omega,trivial⟩
theorem V.Num.nums {v:V} (h:v.Num):v.Nums:=by
 induction h with
 | mk k n s l o h0 h1 hl ho ihl iho=>
   refine .mk _ _ _ _ _ ⟨h0,h1⟩ (fun x hx=> ?_) (fun _ _=>trivial) (fun f hf=> ?_)
   .obtain ⟨i,hi,rfl⟩:=List.getElem_of_mem hx;exact ihl i hi
   .obtain ⟨i,hi,rfl⟩:=List.getElem_of_mem hf;exact iho i hi
theorem zcy {n:Int} (h: -9223372036854775808<=n/\n<=9223372036854775807):wrap64 n=n:=by unfold wrap64;omega
end Go.Proofs.YtbgheehjfnoiiaaGreatDoor
