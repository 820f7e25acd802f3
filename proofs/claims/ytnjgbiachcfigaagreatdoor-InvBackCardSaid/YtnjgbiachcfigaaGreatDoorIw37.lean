/-
  Contracts of the functions that the law reaches: What may be done to a value, one behind.
-/
import Derived.Test.YtnjgbiachcfigaaGreatDoorIw22
import Derived.Test.YtnjgbiachcfigaaGreatDoorIw31
import Derived.Test.YtnjgbiachcfigaaGreatDoorIw36
namespace Go.Proofs.YtnjgbiachcfigaaGreatDoor
open Go.RowKit
set_option maxHeartbeats 16000000
noncomputable def aimP:V->List Ac->List Cm
 |_, [] => []
 | v,a::r=>match oneC v a with
   |none=>aimP v r
   |some c=>if (doP v c).2=0 then c::aimP (doP v c).1 r else aimP v r
theorem zom (l:List Ac):∀v,(aimP v l).length<=l.length:=by
 induction l with
 |nil=>intro v;simp [aimP]
 | cons a r ih=>
   intro v
   unfold aimP
   split
   .have:=ih v;rw [List.length_cons];omega
   .rename_i c _
    split
    .have:=ih (doP v c).1;simp only [List.length_cons];omega
    .have:=ih v;rw [List.length_cons];omega
def OneRes (z:Nat) (r:Option Cm) (nn:Int) (W:World) (cc:CC):Prop:=match r with
 |some x=>nn=1/\IsComp (only (fun b=>z<=b) W) W.heap.size x cc
 |none=>nn=0
theorem OneRes.step {z z':Nat} {r:Option Cm} {nn:Int} {W W':World} {cc:CC} (h:OneRes z r nn W cc) (hz:z'<=z) (hs:W.heap.size<=W'.heap.size) (hb:∀k,z<=k->k<W.heap.size->W'.heap[k]? =W.heap[k]?):OneRes z' r nn W' cc:=by
 cases r with
 |none=>exact h
 |some x=>exact ⟨h.1,Xr h.2 rfl hs fun k hk hl=>⟨Nat.le_trans hz hk,hb k hk hl⟩⟩
theorem OnePost.any {w w':World} {r:Option Cm} {e:Ending} (h:OnePost w r e w'):∃(cc:CC) (nn:Int),e= .returned (.tuple #[.agg #[.int .u8 cc.k, .slice cc.pa cc.pl cc.pc, .string cc.key, .int .i64 cc.i, .int .i64 cc.j, .int .i64 cc.n, .int .u8 cc.v.k, .int .i64 cc.v.n, .string cc.v.s, .slice cc.v.la cc.v.ll cc.v.lc, .slice cc.v.oa cc.v.ol cc.v.oc, .string cc.s], .int .i64 nn])/\OneRes w.heap.size r nn w' cc/\uB w w':=by
 delta uB
 obtain ⟨⟨cc,hm⟩,hb⟩:=h
 cases r with
 |none=>exact ⟨cc,0,hm.1,rfl,hb⟩
 |some x=>exact ⟨cc,1,hm.1,⟨rfl,hm.2⟩,hb⟩
theorem zm4 {w w4:World} {r:Option Cm} {nn:Int} {z:Nat} (h:Below w.heap.size w.drew w4) (hz:w.heap.size<=w4.heap.size) (cc:CC) (t:TypeId) (ho:OneRes z r nn w4 cc) (hzz:w.heap.size<=z):BC (w4.alloc (.cells #[.int .u8 cc.k, .slice cc.pa cc.pl cc.pc, .string cc.key, .int .i64 cc.i, .int .i64 cc.j, .int .i64 cc.n, .int .u8 cc.v.k, .int .i64 cc.v.n, .string cc.v.s, .slice cc.v.la cc.v.ll cc.v.lc, .slice cc.v.oa cc.v.ol cc.v.oc, .string cc.s] t)) w4.heap.size (ccells cc)/\Below w.heap.size w.drew (w4.alloc (.cells #[.int .u8 cc.k, .slice cc.pa cc.pl cc.pc, .string cc.key, .int .i64 cc.i, .int .i64 cc.j, .int .i64 cc.n, .int .u8 cc.v.k, .int .i64 cc.v.n, .string cc.v.s, .slice cc.v.la cc.v.ll cc.v.lc, .slice cc.v.oa cc.v.ol cc.v.oc, .string cc.s] t))/\w.heap.size<=w4.heap.size/\OneRes w.heap.size r nn (w4.alloc (.cells #[.int .u8 cc.k, .slice cc.pa cc.pl cc.pc, .string cc.key, .int .i64 cc.i, .int .i64 cc.j, .int .i64 cc.n, .int .u8 cc.v.k, .int .i64 cc.v.n, .string cc.v.s, .slice cc.v.la cc.v.ll cc.v.lc, .slice cc.v.oa cc.v.ol cc.v.oc, .string cc.s] t)) cc:=by
 have hal:uB w4 (w4.alloc (.cells #[.int .u8 cc.k, .slice cc.pa cc.pl cc.pc, .string cc.key, .int .i64 cc.i, .int .i64 cc.j, .int .i64 cc.n, .int .u8 cc.v.k, .int .i64 cc.v.n, .string cc.v.s, .slice cc.v.la cc.v.ll cc.v.lc, .slice cc.v.oa cc.v.ol cc.v.oc, .string cc.s] t)):=(Below.refl _ _).alloc (Nat.le_refl _) _
 exact ⟨BC.start w4 #[.int .u8 cc.k, .slice cc.pa cc.pl cc.pc, .string cc.key, .int .i64 cc.i, .int .i64 cc.j, .int .i64 cc.n, .int .u8 cc.v.k, .int .i64 cc.v.n, .string cc.v.s, .slice cc.v.la cc.v.ll cc.v.lc, .slice cc.v.oa cc.v.ol cc.v.oc, .string cc.s] t,h.alloc hz _,hz,ho.step hzz hal.size fun k _ hl=>hal.block k hl⟩
theorem zmb {w w4:World} {r:Option Cm} {nn:Int} {z:Nat} (h:Below w.heap.size w.drew w4) (cc:CC) (x:BC w4 w.heap.size [.int .u8 0, .slice none 0 0, .string { data:= #[] }, .int .i64 0, .int .i64 0, .int .i64 0, .int .u8 0, .int .i64 0, .string { data:= #[] }, .slice none 0 0, .slice none 0 0, .string { data:= #[] }]) (ho:OneRes z r nn w4 cc) (hzz:w.heap.size+1<=z):BC ((((((((((((w4.setCell ⟨w.heap.size,0,none⟩ (.int .u8 cc.k)).setCell ⟨w.heap.size,1,none⟩ (.slice cc.pa cc.pl cc.pc)).setCell ⟨w.heap.size,2,none⟩ (.string cc.key)).setCell ⟨w.heap.size,3,none⟩ (.int .i64 cc.i)).setCell ⟨w.heap.size,4,none⟩ (.int .i64 cc.j)).setCell ⟨w.heap.size,5,none⟩ (.int .i64 cc.n)).setCell ⟨w.heap.size,6,none⟩ (.int .u8 cc.v.k)).setCell ⟨w.heap.size,7,none⟩ (.int .i64 cc.v.n)).setCell ⟨w.heap.size,8,none⟩ (.string cc.v.s)).setCell ⟨w.heap.size,9,none⟩ (.slice cc.v.la cc.v.ll cc.v.lc)).setCell ⟨w.heap.size,10,none⟩ (.slice cc.v.oa cc.v.ol cc.v.oc)).setCell ⟨w.heap.size,11,none⟩ (.string cc.s)) w.heap.size (ccells cc)/\Below w.heap.size w.drew ((((((((((((w4.setCell ⟨w.heap.size,0,none⟩ (.int .u8 cc.k)).setCell ⟨w.heap.size,1,none⟩ (.slice cc.pa cc.pl cc.pc)).setCell ⟨w.heap.size,2,none⟩ (.string cc.key)).setCell ⟨w.heap.size,3,none⟩ (.int .i64 cc.i)).setCell ⟨w.heap.size,4,none⟩ (.int .i64 cc.j)).setCell ⟨w.heap.size,5,none⟩ (.int .i64 cc.n)).setCell ⟨w.heap.size,6,none⟩ (.int .u8 cc.v.k)).setCell ⟨w.heap.size,7,none⟩ (.int .i64 cc.v.n)).setCell ⟨w.heap.size,8,none⟩ (.string cc.v.s)).setCell ⟨w.heap.size,9,none⟩ (.slice cc.v.la cc.v.ll cc.v.lc)).setCell ⟨w.heap.size,10,none⟩ (.slice cc.v.oa cc.v.ol cc.v.oc)).setCell ⟨w.heap.size,11,none⟩ (.string cc.s))/\w.heap.size<=w.heap.size/\OneRes w.heap.size r nn ((((((((((((w4.setCell ⟨w.heap.size,0,none⟩ (.int .u8 cc.k)).setCell ⟨w.heap.size,1,none⟩ (.slice cc.pa cc.pl cc.pc)).setCell ⟨w.heap.size,2,none⟩ (.string cc.key)).setCell ⟨w.heap.size,3,none⟩ (.int .i64 cc.i)).setCell ⟨w.heap.size,4,none⟩ (.int .i64 cc.j)).setCell ⟨w.heap.size,5,none⟩ (.int .i64 cc.n)).setCell ⟨w.heap.size,6,none⟩ (.int .u8 cc.v.k)).setCell ⟨w.heap.size,7,none⟩ (.int .i64 cc.v.n)).setCell ⟨w.heap.size,8,none⟩ (.string cc.v.s)).setCell ⟨w.heap.size,9,none⟩ (.slice cc.v.la cc.v.ll cc.v.lc)).setCell ⟨w.heap.size,10,none⟩ (.slice cc.v.oa cc.v.ol cc.v.oc)).setCell ⟨w.heap.size,11,none⟩ (.string cc.s)) cc:=by
 have st:=Yk w4 w.heap.size cc
 exact ⟨Zp (c0:=czero) x cc,Below.setC h (Nat.le_refl _) cc,Nat.le_refl _,ho.step (by omega) st.size fun k hk hl=>st.block k hl (by omega)⟩
structure AH (w wr:World) (v0:V) (l:List Ac) (j:Nat) (x:V) (cx:VC) (u:Value) (xs:List Cm) (cs:List CC):Prop where
 rd:xs++aimP x (l.drop j)=aimP v0 l
 cen:cs.length=xs.length
 few:xs.length<=j
 wt:x.weight<=20000+20100*j
 box:BC wr w.heap.size (vcells cx)
 val:IsVal (only (fun k=>k≠w.heap.size/\some k≠u.ownBlock) wr) wr.heap.size x cx
 row:RowC wr (w.heap.size+1) u xs cs
 below:Below w.heap.size w wr
theorem AH.start {w:World} {v0:V} {c:VC} {t:TypeId} (l:List Ac) (hv:IsVal w w.heap.size v0 c) (hw:v0.weight<=20000):AH w (w.alloc (.cells #[.int .u8 c.k, .int .i64 c.n, .string c.s, .slice c.la c.ll c.lc, .slice c.oa c.ol c.oc] t)) v0 l 0 v0 c (.slice none 0 0) [] [] :=by
 have hal:uB w (w.alloc (.cells #[.int .u8 c.k, .int .i64 c.n, .string c.s, .slice c.la c.ll c.lc, .slice c.oa c.ol c.oc] t)):=(Below.refl _ _).alloc (Nat.le_refl _) _
 exact ⟨rfl,rfl,Nat.le_refl _,by omega,BC.start _ _ _,(hv.sub fun b o u hb hc=>Z3 ⟨by omega,by simp [Value.ownBlock]⟩ ((World.cell?_of_block (hal.block b hb)).trans hc)).more hal.size,Row.nil _ _ _ _ _,hal⟩
theorem AH.skip {w wr W:World} {v0:V} {l:List Ac} {j:Nat} {x:V} {cx:VC} {u:Value} {xs:List Cm} {cs:List CC} (h:AH w wr v0 l j x cx u xs cs) (hb:uB wr W) (hrd:aimP x (l.drop j)=aimP x (l.drop (j+1))):AH w W v0 l (j+1) x cx u xs cs:=
 ⟨by rw [<-hrd];exact h.rd,h.cen,by have:=h.few;omega,by have:=h.wt;omega,h.box.keep hb h.box.lt,Z2 h.val rfl hb.size fun k hk hl=>⟨hk,hb.block k hl⟩,h.row.later (PC.closed _ _) (.of_below w.heap.size hb) (by omega),h.below.trans (hb.mono h.below.size)⟩
structure AM (w wr W:World) (x y:V) (cm:Cm) (cy:VC) (cc:CC) (u:Value) (xs:List Cm) (cs:List CC):Prop where
 box:BC W w.heap.size (vcells cy)
 val:IsVal (only (fun k=>wr.heap.size<=k) W) W.heap.size y cy
 cmp:IsComp (only (fun k=>wr.heap.size<=k) W) W.heap.size cm cc
 row:RowC W (w.heap.size+1) u xs cs
 below:Below w.heap.size w W
theorem AH.mid {w wr W5 W6:World} {v0:V} {l:List Ac} {j:Nat} {x y:V} {cx cy:VC} {u:Value} {xs:List Cm} {cs:List CC} {cm:Cm} {cc:CC} (h:AH w wr v0 l j x cx u xs cs) (hb:uB wr W5) (hc:IsComp (only (fun k=>wr.heap.size<=k) W5) W5.heap.size cm cc) (hb6:uB W5 W6) (hy:IsVal (only (fun k=>W5.heap.size<=k) W6) W6.heap.size y cy) (o:Obj):
 AM w wr ((setV W6 w.heap.size 0 cy).alloc o) x y cm cy cc u xs cs:=by
 have st:=Zi W6 w.heap.size 0 cy
 have hal:uB (setV W6 w.heap.size 0 cy) ((setV W6 w.heap.size 0 cy).alloc o):=(Below.refl _ _).alloc (Nat.le_refl _) _
 have hlo:=h.box.lt
 have hz1:=hb.size;have hz2:=hb6.size;have hz3:=st.size;have hz4:=hal.size
 have hbA:uB wr W6:=hb.trans (hb6.mono hz1)
 have sA:RStep W6 ((setV W6 w.heap.size 0 cy).alloc o) w.heap.size:=st.trans (RStep.of_below _ hal)
 refine ⟨(Z5 (h.box.keep hbA hlo) cy).keep hal (by omega),Z2 hy rfl sA.size fun k hk hl=>⟨by omega,sA.block k hl (by omega)⟩,Xr hc rfl (Nat.le_trans hz2 sA.size) fun k hk hl=>⟨hk,(sA.block k (by omega) (by omega)).trans (hb6.block k hl)⟩,(h.row.later (PC.closed _ _) (.of_below w.heap.size hbA) (by omega)).later (PC.closed _ _) sA (by omega),(Below.set5' (h.below.trans (hbA.mono (by omega))) (Nat.le_refl _) _ _ _ _ _).trans (hal.mono (by omega))⟩
theorem zge {a b j:Nat} (h:a<=20000+20100*j) (hw:b<=a+20100):b<=20000+20100*(j+1):=by
 rw [Nat.mul_succ, <-Nat.add_assoc];exact Nat.le_trans hw (Nat.add_le_add_right h 20100)
theorem AH.round {w wr w7 w9:World} {v0:V} {l:List Ac} {j:Nat} {x y:V} {cx cy:VC} {a:Option Addr} {m c:Nat} {xs:List Cm} {cs:List CC} {cm:Cm} {cc:CC} {g cap:Nat} {t:TypeId}
 (h:AH w wr v0 l j x cx (.slice a m c) xs cs) (hm:AM w wr w7 x y cm cy cc (.slice a m c) xs cs) (hz:wr.heap.size<=w7.heap.size) (hrd:aimP x (l.drop j)=cm::aimP y (l.drop (j+1))) (hw:y.weight<=x.weight+20100)
 (hown:w9.ownsRow (w.heap.size+1) 39 12 (.slice (some ⟨g,0,none⟩) (xs.length+1) cap) (xs.length+1) (cs.flatMap ccells++ccells cc)) (hg:(w7.alloc (.cells #[.int .u8 cc.k, .slice cc.pa cc.pl cc.pc, .string cc.key, .int .i64 cc.i, .int .i64 cc.j, .int .i64 cc.n, .int .u8 cc.v.k, .int .i64 cc.v.n, .string cc.v.s, .slice cc.v.la cc.v.ll cc.v.lc, .slice cc.v.oa cc.v.ol cc.v.oc, .string cc.s] t)).grownBy w9 (Value.slice a m c).ownBlock)
 (hat:(Value.slice a m c).ownBlock=some g∨g=w7.heap.size+1):
 AH w w9 v0 l (j+1) y cy (.slice (some ⟨g,0,none⟩) (xs.length+1) cap) (xs++ [cm]) (cs++ [cc]):=by
 have hrlt:∀b,(Value.slice a m c).ownBlock=some b->w.heap.size+1<=b/\b<wr.heap.size:=h.row.lt
 have hba:uB w7 (w7.alloc (.cells #[.int .u8 cc.k, .slice cc.pa cc.pl cc.pc, .string cc.key, .int .i64 cc.i, .int .i64 cc.j, .int .i64 cc.n, .int .u8 cc.v.k, .int .i64 cc.v.n, .string cc.v.s, .slice cc.v.la cc.v.ll cc.v.lc, .slice cc.v.oa cc.v.ol cc.v.oc, .string cc.s] t)):=(Below.refl _ _).alloc (Nat.le_refl _) _
 have hgb:Below (w.heap.size+1) (w7.alloc (.cells #[.int .u8 cc.k, .slice cc.pa cc.pl cc.pc, .string cc.key, .int .i64 cc.i, .int .i64 cc.j, .int .i64 cc.n, .int .u8 cc.v.k, .int .i64 cc.v.n, .string cc.v.s, .slice cc.v.la cc.v.ll cc.v.lc, .slice cc.v.oa cc.v.ol cc.v.oc, .string cc.s] t)) w9:=Zj hg (fun b hb=>(hrlt b hb).1) (by rw [World.size_alloc];have:=h.box.lt;omega)
 have hlt:=h.box.lt
 have hb79:Below (w.heap.size+1) w7 w9:=(hba.mono (by omega)).trans hgb
 obtain ⟨s1,s2⟩:=PC.snoc (l:=xs) (cs:=cs) h.cen cm cc
 have hnew:PC (xs++ [cm]) (cs++ [cc]) (only (Free (w.heap.size+1) (.slice a m c)) w7) w7.heap.size xs.length:=s1 _ _ (hm.cmp.sub (Zd fun b hb _=>⟨⟨by omega,fun e=>by have:=(hrlt b e.symm).2;omega⟩,rfl⟩))
 have hpush:=Row.push (PC.closed (xs++ [cm]) (cs++ [cc])) hm.row hba hg (u':= .slice (some ⟨g,0,none⟩) (xs.length+1) cap) (news:=ccells cc) hown (by
  rcases hat with e|e
  .left;rw [e];rfl
  .right;intro b hb;have:g=b:=by simpa [Value.ownBlock] using hb
   omega) hnew s2
 refine ⟨?_,by simp [h.cen],by rw [List.length_append,List.length_singleton];have:=h.few;omega,zge h.wt hw,hm.box.keep hb79 (by omega), ?_, ?_,hm.below.trans (hb79.mono (by omega))⟩
 .rw [<-h.rd,hrd,List.append_assoc];rfl
 .refine Z2 hm.val rfl hb79.size fun k hk hl=>⟨⟨by omega,fun e=> ?_⟩, ?_⟩
  .have e2:k=g:=by simpa [Value.ownBlock] using e
   rcases hat with e3|e3
   .have:=(hrlt g e3).2;omega
   .omega
  .refine (hg.block k (by simp;omega) fun e=> ?_).trans (hba.block k hl)
   have:=(hrlt k e.symm).2;omega
 .show Row _ _ _ _ _ _ _ _
  rw [Y4,List.length_append,List.length_singleton]
  exact hpush
def AimPost (w:World) (l:List Cm) (e:Ending) (w':World):Prop:=
 (∃a n c,e= .returned (.slice a n c)/\IsComps (only (fun b=>w.heap.size<=b) w') w'.heap.size l a n c)/\Below w.heap.size w w'
structure HerOk (P:Int->Prop) (K:ByteArray->Prop):Prop where
 zero:P 0
 wrap:∀n,P (wrap64 n)
 key:K .empty
variable {P:Int->Prop} {K:ByteArray->Prop}
theorem J4 (hp:HerOk P K):V.Her P K V.none:= .mk _ _ _ _ _ hp.zero (fun _ h=>by cases h) (fun _ h=>by cases h) (fun _ h=>by cases h)
theorem zkl {v z:V} {i:Nat} (hv:V.Her P K v) (hz:V.Her P K z):V.Her P K (v.setL i z):=by
 cases hv with
 | mk k n s l o hn hl hk ho=>
   refine .mk _ _ _ _ _ hn (fun x hx=> ?_) hk ho
   rcases List.mem_or_eq_of_mem_set hx with h|h
   .exact hl x h
   .exact h ▸ hz
theorem zqh {v z:V} {i:Nat} (hp:HerOk P K) (hv:V.Her P K v) (hz:V.Her P K z):V.Her P K (v.setO i z):=by
 cases hv with
 | mk k n s l o hn hl hk ho=>
   have key:∀f ∈ putO o i z,K f.1/\V.Her P K f.2:=by
    intro f hf
    unfold putO at hf
    rcases List.mem_or_eq_of_mem_set hf with h|h
    .exact ⟨hk f h,ho f h⟩
    .subst h
     refine ⟨?_,hz⟩
     dsimp only
     rw [List.getD_eq_getElem?_getD]
     cases hq:o[i]? with
     |none=>exact hp.key
     |some y=>exact hk y (List.mem_of_getElem? hq)
   exact .mk _ _ _ _ _ hn hl (fun f hf=>(key f hf).1) (fun f hf=>(key f hf).2)
theorem znk (hp:HerOk P K) (p:List St):∀ {v x w:V},V.Her P K v->V.Her P K x->putP v p x=some w->V.Her P K w:=by
 induction p with
 |nil=>intro v x w _ hx h;injection h with h;exact h ▸ hx
 | cons s r ih=>
   intro v x w hv hx h
   unfold putP at h
   cases hs:stepP v s with
   |none=>rw [hs] at h;cases h
   | some q=>
     obtain ⟨y,k⟩:=q
     rw [hs] at h
     dsimp only at h
     cases hq:putP y r x with
     |none=>rw [hq] at h;cases h
     | some z=>
       rw [hq] at h
       dsimp only at h
       injection h with h
       have hz:=ih (zbp hv hs) hx hq
       split at h
       .exact h ▸ zkl hv hz
       .exact h ▸ zqh hp hv hz
theorem zf4 {key:ByteArray} {v:V} (hk:K key) (hv:V.Her P K v) (o:List (ByteArray×V)):∀(s:List (ByteArray×V)×Bool),(∀f ∈ s.1,K f.1/\V.Her P K f.2)->(∀f ∈ o,K f.1/\V.Her P K f.2)->∀f ∈ (o.foldl (fldStep key v) s).1,K f.1/\V.Her P K f.2:=by
 induction o with
 |nil=>intro s hs _;exact hs
 | cons g o ih=>
   intro s hs ho
   refine ih _ ?_ (fun f hf=>ho f (List.mem_cons_of_mem _ hf))
   have hg:=ho g List.mem_cons_self
   have one:∀ {f x:ByteArray×V},(K x.1/\V.Her P K x.2)->f ∈ s.1++ [x] ->K f.1/\V.Her P K f.2:=by
    intro f x hx hf
    rcases List.mem_append.1 hf with h|h
    .exact hs f h
    .rw [List.mem_singleton] at h;exact h ▸ hx
   intro f hf
   unfold fldStep at hf
   split at hf
   .split at hf
    .exact one (x:=(key,v)) ⟨hk,hv⟩ hf
    .rcases List.mem_append.1 hf with h|h
     .exact one (x:=(key,v)) ⟨hk,hv⟩ h
     .rw [List.mem_singleton] at h;exact h ▸ hg
   .split at hf
    .exact hs f hf
    .exact one hg hf
theorem zgn {key:ByteArray} {v:V} (hk:K key) (hv:V.Her P K v) (o:List (ByteArray×V)) (d:Bool) (ho:∀f ∈ o,K f.1/\V.Her P K f.2):∀f ∈ fieldsDo o key v d,K f.1/\V.Her P K f.2:=by
 have h:=zf4 hk hv o ([],d) (fun f hf=>by cases hf) ho
 unfold fieldsDo
 split
 .intro f hf
  rcases List.mem_append.1 hf with g|g
  .exact h f g
  .rw [List.mem_singleton] at g;exact g ▸ ⟨hk,hv⟩
 .exact h
theorem zhw (hp:HerOk P K) {l:List V} {k i j:Int} {v:V} (hl:∀x ∈ l,V.Her P K x) (hv:V.Her P K v):∀x ∈ listDo l k i j v,V.Her P K x:=by
 have hr:∀x ∈ remL l i.toNat,V.Her P K x:=by
  intro x hx
  unfold remL at hx
  rcases List.mem_append.1 hx with h|h
  .exact hl x (List.mem_of_mem_take h)
  .exact hl x (List.mem_of_mem_drop h)
 have hi:∀ {q:List V} {n:Nat} {y:V},(∀x ∈ q,V.Her P K x)->V.Her P K y->∀x ∈ insL q n y,V.Her P K x:=by
  intro q n y hq hy x hx
  unfold insL at hx
  rcases List.mem_append.1 hx with h|h
  .exact hq x (List.mem_of_mem_take h)
  .rcases List.mem_cons.1 h with h|h
   .exact h ▸ hy
   .exact hq x (List.mem_of_mem_drop h)
 unfold listDo
 split
 .exact hi hl hv
 .split
  .exact hr
  .split
   .intro x hx
    rcases List.mem_or_eq_of_mem_set hx with h|h
    .exact hl x h
    .exact h ▸ hv
   .refine hi hr ?_
    rw [List.getD_eq_getElem?_getD]
    cases hq:l[i.toNat]? with
    |none=>exact J4 hp
    |some y=>exact hl y (List.mem_of_getElem? hq)
theorem zq7 (hp:HerOk P K) {x:V} {c:Cm} (hx:V.Her P K x) (hv:V.Her P K c.v) (hk:K c.key):V.Her P K (doneP x c):=by
 have hls:=hx.ls
 have hos:=hx.os
 have hn:=hx.nm
 have ok:∀f ∈ x.os,K f.1:=fun f h=>(hos f h).1
 have ov:∀f ∈ x.os,V.Her P K f.2:=fun f h=>(hos f h).2
 unfold doneP
 split
 .exact .mk _ _ _ _ _ (hp.wrap _) hls ok ov
 .split
  .have:=zgn hk hv x.os (c.k==3) hos
   exact .mk _ _ _ _ _ hn hls (fun f h=>(this f h).1) (fun f h=>(this f h).2)
  .split
   .exact .mk _ _ _ _ _ hn hls ok ov
   .exact .mk _ _ _ _ _ hn (zhw hp hls hv) ok ov
theorem zco (hp:HerOk P K) {v:V} {c:Cm} (hv:V.Her P K v) (hc:V.Her P K c.v) (hk:K c.key):V.Her P K (doP v c).1:=by
 unfold doP
 split
 .cases hg:getP v c.path with
  |none=>exact J4 hp
  | some x=>
    dsimp only
    cases hq:putP v c.path (doneP x c) with
    |none=>exact J4 hp
    |some w=>exact znk hp c.path hv (zq7 hp (zff c.path hv hg) hc hk) hq
 .exact J4 hp
theorem zce:HerOk (fun n=> -9223372036854775808<=n/\n<=9223372036854775807) (fun _=>True):=⟨by decide,fun n=>by unfold wrap64;omega,trivial⟩
noncomputable def doAllP:V->List Cm->V×Int
 |v, [] =>(v,0)
 |v,c::r=>if (doP v c).2=0 then doAllP (doP v c).1 r else (V.none,(doP v c).2)
theorem zgg (a b:List Cm):∀v,doAllP v (a++b)=if (doAllP v a).2=0 then doAllP (doAllP v a).1 b else (V.none,(doAllP v a).2):=by
 induction a with
 |nil=>intro v;rfl
 | cons c r ih=>
   intro v
   rw [List.cons_append,doAllP,doAllP]
   by_cases h:(doP v c).2=0
   .rw [if_pos h,if_pos h,ih]
   .rw [if_neg h,if_neg h,if_neg h]
theorem ze6:∀(op:List Cm) {v:V} {l:List Cm},v.sound=true->v.Nums->(∀c ∈ op,c.Nums)->turnsP v op=(l,0)->(doAllP v op).2=0/\doAllP (doAllP v op).1 l.reverse=(v,0)/\l.length=op.length:=by
 intro op
 induction op with
 | nil=>
   intro v l _ _ _ h
   injection h with h1 h2
   subst h1
   exact ⟨rfl,rfl,rfl⟩
 | cons c r ih=>
   intro v l hv hn hc h
   rw [turnsP] at h
   by_cases h1:(turnedP v c).2=0
   .rw [if_pos h1] at h
    by_cases h2:(turnsP (doP v c).1 r).2=0
    .rw [if_pos h2] at h
     injection h with h3 h4
     have ht:turnedP v c=((turnedP v c).1,0):=Prod.ext rfl h1
     obtain ⟨b1,b2,b3⟩:=za9 hv hn (hc c (List.mem_cons_self ..)) ht
     have hq:turnsP (doP v c).1 r=((turnsP (doP v c).1 r).1,0):=Prod.ext rfl h2
     obtain ⟨i1,i2,i3⟩:=ih (Ql hv) (zco zce hn (hc c (List.mem_cons_self ..)).2 trivial) (fun d hd=>hc d (List.mem_cons_of_mem _ hd)) hq
     rw [doAllP,if_pos b1]
     refine ⟨i1, ?_,by rw [<-h3,List.length_cons,i3,List.length_cons]⟩
     rw [<-h3,List.reverse_cons,zgg,i2,if_pos rfl,doAllP,b2]
     rfl
    .rw [if_neg h2] at h
     injection h with h3 h4
     exact absurd h4 h2
   .rw [if_neg h1] at h
    injection h with h3 h4
    exact absurd h4 h1
theorem zjx:∀(op:List Cm) (v:V),(doAllP v op).2=0->(turnsP v op).2=0∨turnsP v op=([],60):=by
 intro op
 induction op with
 |nil=>intro v _;exact .inl rfl
 | cons c r ih=>
   intro v h
   rw [doAllP] at h
   by_cases h0:(doP v c).2=0
   .rw [if_pos h0] at h
    have h1:=h0
    rw [Ko] at h1
    rw [turnsP]
    by_cases ht:(turnedP v c).2=0
    .rw [if_pos ht]
     rcases ih _ h with i|i
     .rw [if_pos i];exact .inl rfl
     .rw [i,if_neg (by decide)];exact .inr rfl
    .rw [if_neg ht]
     refine .inr ?_
     have:(turnedP v c).2=60:=by
      unfold turnedP at ht ⊢
      rw [if_pos h1] at ht ⊢
      split at ht
      .exact absurd rfl ht
      .rename_i hs;rw [if_neg hs]
     rw [this]
   .rw [if_neg h0] at h
    exact absurd h h0
theorem zna (l:List Ac):∀v,(doAllP v (aimP v l)).2=0:=by
 induction l with
 |nil=>intro v;rfl
 | cons a r ih=>
   intro v
   rw [aimP]
   cases h:oneC v a with
   |none=>exact ih v
   | some c=>
     dsimp only
     split
     .rename_i h0
      rw [doAllP,if_pos h0];exact ih _
     .exact ih v
theorem zlu {w:World} {b o:Nat} {c:CC} (h:CompAt w b o c):∀k u,(ccells c)[k]? =some u->w.cell? ⟨b,o+k,none⟩=some u:=fun k u hk=>by
 have hm:k<12:=by have:=(List.getElem?_eq_some_iff.1 hk).1;exact this
 match k,hm with
 |0,_=>rw [<-hk];exact h.c0
 |1,_=>rw [<-hk];exact h.c1
 |2,_=>rw [<-hk];exact h.c2
 |3,_=>rw [<-hk];exact h.c3
 |4,_=>rw [<-hk];exact h.c4
 |5,_=>rw [<-hk];exact h.c5
 |6,_=>rw [<-hk];exact h.c6.c0
 |7,_=>rw [<-hk];exact h.c6.c1
 |8,_=>rw [<-hk];exact h.c6.c2
 |9,_=>rw [<-hk];exact h.c6.c3
 |10,_=>rw [<-hk];exact h.c6.c4
 |11,_=>rw [<-hk];exact h.c11
theorem znb {w w4:World} {y:V} (h:Below w.heap.size w.drew w4) (hz:w.heap.size<=w4.heap.size) (d:VC) (t:TypeId) (hv:IsVal (only (fun b=>w.heap.size<=b) w4) w4.heap.size y d):BC (w4.alloc (.cells #[.int .u8 d.k, .int .i64 d.n, .string d.s, .slice d.la d.ll d.lc, .slice d.oa d.ol d.oc] t)) w4.heap.size (vcells d)/\Below w.heap.size w.drew (w4.alloc (.cells #[.int .u8 d.k, .int .i64 d.n, .string d.s, .slice d.la d.ll d.lc, .slice d.oa d.ol d.oc] t))/\w.heap.size<=w4.heap.size/\IsVal (only (fun b=>w.heap.size<=b) (w4.alloc (.cells #[.int .u8 d.k, .int .i64 d.n, .string d.s, .slice d.la d.ll d.lc, .slice d.oa d.ol d.oc] t))) (w4.alloc (.cells #[.int .u8 d.k, .int .i64 d.n, .string d.s, .slice d.la d.ll d.lc, .slice d.oa d.ol d.oc] t)).heap.size y d:=by
 have f:=Ja h hz d t
 have hal:uB w4 (w4.alloc (.cells (uV d) t)):=(Below.refl _ _).alloc (Nat.le_refl _) _
 exact ⟨f.1,f.2.1,f.2.2,Z2 hv rfl hal.size fun k hk hl=>⟨hk,hal.block k hl⟩⟩
theorem znm {w W:World} {y:V} (h:Below w.heap.size w.drew W) (d:VC) (x:BC W w.heap.size [.int .u8 0, .int .i64 0, .string { data:= #[] }, .slice none 0 0, .slice none 0 0]) (hv:IsVal (only (fun b=>w.heap.size+1<=b) W) W.heap.size y d):BC (((((W.setCell ⟨w.heap.size,0,none⟩ (.int .u8 d.k)).setCell ⟨w.heap.size,1,none⟩ (.int .i64 d.n)).setCell ⟨w.heap.size,2,none⟩ (.string d.s)).setCell ⟨w.heap.size,3,none⟩ (.slice d.la d.ll d.lc)).setCell ⟨w.heap.size,4,none⟩ (.slice d.oa d.ol d.oc)) w.heap.size (vcells d)/\Below w.heap.size w.drew (((((W.setCell ⟨w.heap.size,0,none⟩ (.int .u8 d.k)).setCell ⟨w.heap.size,1,none⟩ (.int .i64 d.n)).setCell ⟨w.heap.size,2,none⟩ (.string d.s)).setCell ⟨w.heap.size,3,none⟩ (.slice d.la d.ll d.lc)).setCell ⟨w.heap.size,4,none⟩ (.slice d.oa d.ol d.oc))/\w.heap.size<=w.heap.size/\IsVal (only (fun b=>w.heap.size<=b) (((((W.setCell ⟨w.heap.size,0,none⟩ (.int .u8 d.k)).setCell ⟨w.heap.size,1,none⟩ (.int .i64 d.n)).setCell ⟨w.heap.size,2,none⟩ (.string d.s)).setCell ⟨w.heap.size,3,none⟩ (.slice d.la d.ll d.lc)).setCell ⟨w.heap.size,4,none⟩ (.slice d.oa d.ol d.oc))) (((((W.setCell ⟨w.heap.size,0,none⟩ (.int .u8 d.k)).setCell ⟨w.heap.size,1,none⟩ (.int .i64 d.n)).setCell ⟨w.heap.size,2,none⟩ (.string d.s)).setCell ⟨w.heap.size,3,none⟩ (.slice d.la d.ll d.lc)).setCell ⟨w.heap.size,4,none⟩ (.slice d.oa d.ol d.oc)).heap.size y d:=by
 have f:=Jr h d x
 have st:=Zi W w.heap.size 0 d
 exact ⟨f.1,f.2.1,f.2.2,Z2 hv rfl st.size fun k hk hl=>⟨Nat.le_of_succ_le hk,st.block k hl (by have:w.heap.size+1<=k:=hk;omega)⟩⟩
theorem zh9 {tmps:Array Value} {W:World} {b:Nat} {c:VC} {x:Value} (ht:tmps[4]? =some (.pointer (some ⟨b,0,none⟩))) (hx:tmps[5]? =some x) (h:BC W b (vcells c)):
 (results Tryz.f24 tmps).run Tryz.prog W= .ok (.tuple #[.agg #[.int .u8 c.k, .int .i64 c.n, .string c.s, .slice c.la c.ll c.lc, .slice c.oa c.ol c.oc],x]) W:=by
 obtain ⟨r0,r1,r2,r3,r4⟩:=row5 h.at_
 simp [results,Tryz.results24,go_sem,ht,hx,r0,r1,r2,r3,r4]
theorem zf8 {w W:World} {x:Act} {c:VC} {v:V} (h:BC W (w.heap.size+1) (vcells c)) (hv:IsVal (only (fun b=>w.heap.size<=b) W) W.heap.size v c) (hb:uB w W) (hd:x.defers= []) (ht:x.tmps[4]? =some (.pointer (some ⟨w.heap.size+1,0,none⟩))) (hx:x.tmps[5]? =some (.int .i64 0)):
 bodyPost Tryz.prog Tryz.f24 (DoPost w (v,0)) .ret x W:=⟨hd,_,zh9 ht hx h,⟨c,rfl,hv⟩,hb⟩
structure LD (w wr:World) (op:List Cm) (y:V) (j:Nat) (x:V) (cx:VC):Prop where
 rd:doAllP x (op.drop j)=(y,0)
 ok:OpOk x (op.drop j)
 box:GB w wr cx
 val:IsVal (only (fun k=>w.heap.size+2<=k) wr) wr.heap.size x cx
theorem zhc {x y:V} {c:Cm} {r:List Cm} (h:doAllP x (c::r)=(y,0)):(doP x c).2=0/\doAllP (doP x c).1 r=(y,0):=by
 rw [doAllP] at h
 by_cases h0:(doP x c).2=0
 .rw [if_pos h0] at h;exact ⟨h0,h⟩
 .rw [if_neg h0] at h;exact absurd (congrArg Prod.snd h) h0
set_option maxRecDepth 100000 in
theorem zfm (w:World) (cv:VC) (v y:V) (hv:IsVal w w.heap.size v cv) (op:List Cm) (oa:Option Addr) (on oc:Nat) (hop:IsComps w w.heap.size op oa on oc) (hn:on<=200) (hok:OpOk v op) (hd:doAllP v op=(y,0)) (hT:Tabs w):
 uP 24 #[.agg (uV cv), .slice oa on oc] w (DoPost w (y,0)):=by
 delta uV uP
 have hlen:=hop.len;have hmax:=hop.max;have hcap:=hop.cap
 have HOP:=qh hop;have HT:=qh hT;have HOK:=qh hok;have HD:=qh hd
 obtain ⟨w2,hw2⟩:∃W,(w.alloc (.cells (uV cv) 36)).alloc (.cells (uU 0 0 { data:= #[] } none 0 0 none 0 0) 36)=W:=⟨_,rfl⟩
 have B2:GB w w2 cv:=by rw [<-hw2];exact GB.start w cv 36 36
 have HCP:Hid (uP 30 #[.agg (uV cv)] w2 (NewVal w2 v)):=qh (Yp v w2 cv (hv.later_ B2.below))
 obtain ⟨v0,v1,v2,v3,v4⟩:=row5 B2.v.at_
 have zs:=B2.v.lt;have zr:=B2.r.lt
 have HB2:=qh B2
 clear hop hT hok hd hv B2
 go_enter Tryz.func24,Tryz.ntmps24
 generalize hQ0:bodyPost _ _ _=Q0
 have HQ:=qh hQ0
 clear hQ0
 go_upto_region 3 with fail
 clear hw2
 go_wp2_with fail
 refine HCP.out.mono ?_
 rintro e w3 ⟨⟨d,rfl,hI3⟩,hb3⟩
 have B3:=HB2.out.next hb3 (Nat.succ_le_of_lt zr)
 clear v0 v1 v2 v3 v4 zs
 obtain ⟨v0,v1,v2,v3,v4⟩:=row5 B3.v.at_
 have zs:=B3.v.lt;have gv:=B3.v.fr
 have HLD:Hid (LD w (setV w3 w.heap.size 0 d) op y 0 v d):=qh ⟨HD.out,HOK.out,B3.store d,by
  have st:=Zi w3 w.heap.size 0 d
  have hz:=HB2.out.r.lt
  exact Z2 hI3 rfl st.size fun k hk hl=>have hk':w2.heap.size<=k:=hk;⟨by omega,st.block k hl (by omega)⟩⟩
 clear B3 hI3 hb3 HCP HD HOK HB2 zr
 go_wp2_with fail
 clear v0 v1 v2 v3 v4 zs gv
 go_loopw [6,7,8] (fun i _ _ wr=>∃(j:Nat) (x:V) (cx:VC),j<=on/\i= .int .i64 j/\Hid (LD w wr op y j x cx)) (fun i _ _ _=>on - (intOf i).toNat)
 case atStart=>exact ⟨0,v,d,Nat.zero_le _,rfl,HLD⟩
 case round=>
  obtain ⟨j,x,cx,hj,rfl,HL⟩:=hrel
  have hlh:=HL.out
  clear HLD
  obtain ⟨v0,v1,v2,v3,v4⟩:=row5 hlh.box.v.at_
  obtain ⟨r0,r1,r2,r3,r4⟩:=row5 hlh.box.r.at_
  have gv:=hlh.box.v.fr;have gr:=hlh.box.r.fr
  have zs0:=hlh.box.v.lt;have zs1:=hlh.box.r.lt
  by_cases hlt:j<on
  .have hjl:j<op.length:=by omega
   obtain ⟨b,o,f,h5,h6⟩:=HOP.out.at_
   obtain ⟨rfl,hbB⟩:=h5 (by omega)
   obtain ⟨hat,hic⟩:=h6 j hjl
   have hat2:=hat.keep hlh.box.below hbB
   have hbw:=Nat.lt_of_lt_of_le hbB hlh.box.below.size
   obtain ⟨cc,hcc⟩:∃c,f j=c:=⟨_,rfl⟩
   rw [hcc] at hat2 hic
   obtain ⟨cm,hcm⟩:∃y,op[j] =y:=⟨_,rfl⟩
   have hdr:op.drop j=cm::op.drop (j+1):=by rw [List.drop_eq_getElem_cons hjl,hcm]
   rw [hcm] at hic
   have hok:=hlh.ok;have hrd:=hlh.rd
   rw [hdr] at hok hrd
   obtain ⟨hxw,hxs,hcw,hcs,hnx⟩:=hok
   obtain ⟨hd0,hrd⟩:=zhc hrd
   have hnx:=hnx hd0
   obtain ⟨D,hD⟩:∃D,doP x cm=D:=⟨_,rfl⟩
   rw [hD] at hd0 hrd hnx
   have HC:Hid (∀W,Below wr.heap.size wr.drew W->uP 16 #[.agg (uV cx), .agg (uC cc)] W (DoPost W (D.1,0))):=qh fun W hW=>by
    have hbW:uB wr W:=(Zf wr).trans hW
    have hwW:=hlh.box.below.trans (hbW.mono hlh.box.below.size)
    have hvW:IsVal W W.heap.size x cx:=(hlh.val.sub (Zk _ _ _)).later_ hbW
    cases hic with
    | mk _ p xv hcb hp hxv=>
      have:=zak W cx.k cx.n cx.s cx.la cx.ll cx.lc cx.oa cx.ol cx.oc x hvW hxw p xv cc hcb (hp.later_ hwW) (hxv.later_ hwW) hcw (fun y hy=>by have:=Zz _ hy;have:=y.str_weight.1;dsimp only at hcs;omega) (HT.out.below hwW)
      rw [hD] at this
      rw [<-hd0]
      exact this
   obtain ⟨e0,e1,e2,e3,e4,e5,e6,e7,e8,e9,e10,e11⟩:=row12 (zlu hat2)
   rw [Nat.add_zero] at e0
   have hj0:¬((j:Int)<0):=by omega
   have hjn:(j:Int)<(on:Int):=by omega
   have HFB:Hid (∀W,Below wr.heap.size wr.drew W->W.cell? ⟨w.heap.size,0,none⟩=some (.int .u8 cx.k)/\W.cell? ⟨w.heap.size,1,none⟩=some (.int .i64 cx.n)/\W.cell? ⟨w.heap.size,2,none⟩=some (.string cx.s)/\W.cell? ⟨w.heap.size,3,none⟩=some (.slice cx.la cx.ll cx.lc)/\W.cell? ⟨w.heap.size,4,none⟩=some (.slice cx.oa cx.ol cx.oc)/\W.cell? ⟨b,o+j*12,none⟩=some (.int .u8 cc.k)/\W.cell? ⟨b,o+j*12+1,none⟩=some (.slice cc.pa cc.pl cc.pc)/\W.cell? ⟨b,o+j*12+2,none⟩=some (.string cc.key)/\W.cell? ⟨b,o+j*12+3,none⟩=some (.int .i64 cc.i)/\W.cell? ⟨b,o+j*12+4,none⟩=some (.int .i64 cc.j)/\W.cell? ⟨b,o+j*12+5,none⟩=some (.int .i64 cc.n)/\W.cell? ⟨b,o+j*12+6,none⟩=some (.int .u8 cc.v.k)/\W.cell? ⟨b,o+j*12+7,none⟩=some (.int .i64 cc.v.n)/\W.cell? ⟨b,o+j*12+8,none⟩=some (.string cc.v.s)/\W.cell? ⟨b,o+j*12+9,none⟩=some (.slice cc.v.la cc.v.ll cc.v.lc)/\W.cell? ⟨b,o+j*12+10,none⟩=some (.slice cc.v.oa cc.v.ol cc.v.oc)/\W.cell? ⟨b,o+j*12+11,none⟩=some (.string cc.s)):=qh fun W hW=>by
    have hk:∀b o u,b<wr.heap.size->wr.cell? ⟨b,o,none⟩=some u->W.cell? ⟨b,o,none⟩=some u:=fun b o u hb h=>Za hW (Za (Zf wr) h hb) hb
    exact ⟨hk _ _ _ zs0 v0,hk _ _ _ zs0 v1,hk _ _ _ zs0 v2,hk _ _ _ zs0 v3,hk _ _ _ zs0 v4,hk _ _ _ hbw e0,hk _ _ _ hbw e1,hk _ _ _ hbw e2,hk _ _ _ hbw e3,hk _ _ _ hbw e4,hk _ _ _ hbw e5,hk _ _ _ hbw e6,hk _ _ _ hbw e7,hk _ _ _ hbw e8,hk _ _ _ hbw e9,hk _ _ _ hbw e10,hk _ _ _ hbw e11⟩
   have HRD:=qh hrd;have HNX:=qh hnx
   clear h5 h6 hat hic hat2 hcc hcm hdr hxw hxs hcw hcs hnx hlh hd0 hrd hD
   go_wp2_with fail
   refine wp_region_noPanic ?_
   go_region_held_law (fun W=>W.cell? ⟨w.heap.size,0,none⟩=some (.int .u8 cx.k)/\W.cell? ⟨w.heap.size,1,none⟩=some (.int .i64 cx.n)/\W.cell? ⟨w.heap.size,2,none⟩=some (.string cx.s)/\W.cell? ⟨w.heap.size,3,none⟩=some (.slice cx.la cx.ll cx.lc)/\W.cell? ⟨w.heap.size,4,none⟩=some (.slice cx.oa cx.ol cx.oc)/\W.cell? ⟨b,o+j*12,none⟩=some (.int .u8 cc.k)/\W.cell? ⟨b,o+j*12+1,none⟩=some (.slice cc.pa cc.pl cc.pc)/\W.cell? ⟨b,o+j*12+2,none⟩=some (.string cc.key)/\W.cell? ⟨b,o+j*12+3,none⟩=some (.int .i64 cc.i)/\W.cell? ⟨b,o+j*12+4,none⟩=some (.int .i64 cc.j)/\W.cell? ⟨b,o+j*12+5,none⟩=some (.int .i64 cc.n)/\W.cell? ⟨b,o+j*12+6,none⟩=some (.int .u8 cc.v.k)/\W.cell? ⟨b,o+j*12+7,none⟩=some (.int .i64 cc.v.n)/\W.cell? ⟨b,o+j*12+8,none⟩=some (.string cc.v.s)/\W.cell? ⟨b,o+j*12+9,none⟩=some (.slice cc.v.la cc.v.ll cc.v.lc)/\W.cell? ⟨b,o+j*12+10,none⟩=some (.slice cc.v.oa cc.v.ol cc.v.oc)/\W.cell? ⟨b,o+j*12+11,none⟩=some (.string cc.s))
    ((refine HFB.out _ ?_;(first|(with_reducible exact bl4)|(with_reducible exact Below.refl _ _)|(with_reducible exact Zr _ _)|(with_reducible exact Below.set5 bl4 _ _ _ _ _)|(with_reducible exact Below.set5' (Below.alloc bl4 bz4 _) bz4 _ _ _ _ _)|(with_reducible exact Below.alloc bl4 bz4 _))))
    (first
     |(go_at_call 16;(with_reducible refine (HC.out _ (Below.refl _ _)).mono ?_);rintro e w4 ⟨⟨d,rfl,hI4⟩,hb4⟩;have HI4:Hid (IsVal (only (fun b=>wr.heap.size<=b) w4) w4.heap.size D.1 d):=qh hI4;clear hI4;have bl4:Below wr.heap.size wr.drew w4:=hb4;have bz4:wr.heap.size<=w4.heap.size:=hb4.size)
     |(go_at_call 16;(with_reducible refine (HC.out _ (Zr _ _)).mono ?_);rintro e w4 ⟨⟨d,rfl,hI4⟩,hb4⟩;have HI4:=qh (hI4.sub (Zd (S':=fun b=>wr.heap.size+1<=b) fun k hk _=>⟨(by have:=hk;simpa using this),rfl⟩));clear hI4;have bl4:Below wr.heap.size wr.drew w4:=(Zr _ _).trans (hb4.mono (by simp));have bz4:wr.heap.size<=w4.heap.size:=bl4.size;have XB:=Xn hb4;obtain ⟨xc0,xc1,xc2,xc3,xc4⟩:=row5 XB.at_;have xg0:=XB.fr 0;have xg1:=XB.fr 1;have xg2:=XB.fr 2;have xg3:=XB.fr 3;have xg4:=XB.fr 4;have xl:=XB.lt))
   all_goals
    (first
     |(with_reducible refine Zt (P:=fun W=>BC W w4.heap.size (vcells d)/\Below wr.heap.size wr.drew W/\wr.heap.size<=w4.heap.size/\IsVal (only (fun b=>wr.heap.size<=b) W) W.heap.size D.1 d) (znb bl4 bz4 d _ HI4.out) ?_)
     |(with_reducible refine Zt (P:=fun W=>BC W wr.heap.size (vcells d)/\Below wr.heap.size wr.drew W/\wr.heap.size<=wr.heap.size/\IsVal (only (fun b=>wr.heap.size<=b) W) W.heap.size D.1 d) (znm bl4 d XB HI4.out) ?_))
    rintro W ⟨XF,hbW,hxb,hI⟩
    have B2:=HL.out.box.next ((Zf wr).trans hbW) (Nat.succ_le_of_lt zs1)
    clear v0 v1 v2 v3 v4 r0 r1 r2 r3 r4 gv gr e0 e1 e2 e3 e4 e5 e6 e7 e8 e9 e10 e11 hb4 bl4
    obtain ⟨v0,v1,v2,v3,v4⟩:=row5 B2.v.at_
    have gv:=B2.v.fr
    obtain ⟨y0,y1,y2,y3,y4⟩:=row5 XF.at_
    have zt0:=B2.v.lt;have zt2:=XF.lt
    have HLD:Hid (LD w (setV W w.heap.size 0 d) op y (j+1) D.1 d):=qh ⟨HRD.out,HNX.out,B2.store d,by
     have st:=Zi W w.heap.size 0 d
     exact Z2 hI rfl st.size fun k hk hl=>have hk':wr.heap.size<=k:=hk;⟨by omega,st.block k hl (by omega)⟩⟩
    clear B2 XF hbW hI
    go_wp2_with fail
    go_roundw
    case rel=>exact ⟨j+1,D.1,d,by omega,by go_num,HLD⟩
    case measure=>simp [intOf];omega
  .have hjn:j=on:=by omega
   subst hjn
   obtain rfl:x=y:=by
    have:=hlh.rd
    rw [List.drop_eq_nil_of_le (by omega),doAllP] at this
    exact congrArg Prod.fst this
   have ST:=hlh.box.result cx
   have hI:IsVal (only (fun b=>w.heap.size<=b) (setV wr (w.heap.size+1) 0 cx)) (setV wr (w.heap.size+1) 0 cx).heap.size x cx:=by
    have st:=Zi wr (w.heap.size+1) 0 cx
    exact Z2 hlh.val rfl st.size fun k hk hl=>have hk':w.heap.size+2<=k:=hk;⟨by omega,st.block k hl (by omega)⟩
   have HI:=qh hI;have HST:=qh ST
   clear hlh ST hI
   go_wp2_with fail
   rw [<-HQ.out]
   exact zf8 HST.out.1 HI.out HST.out.2 rfl rfl rfl
theorem zi3 (x:V) (c:Cm):(turnP x c).s.size<=x.str.size:=by
 unfold turnP
 (repeat' split)<;>first|exact Nat.zero_le _|(show (partT _ _ _).size<=_;rw [partT,ByteArray.size_extract];omega)
theorem zft {v:V} {c d:Cm} (h:turnedP v c=(d,0)):d.s.size<=v.weight/\d.v.weight<=20000:=by
 obtain ⟨_,x,hg,rfl,hs⟩:=J9 h
 have h1:=zi3 x c;have h2:=x.str_weight.1;have h3:=Zz _ hg
 refine ⟨by omega, ?_⟩
 unfold cmSound at hs
 simp only [Bool.and_eq_true,decide_eq_true_eq] at hs
 exact hs.2
theorem zmn:∀(l:List Ac) (v:V),v.sound=true->v.weight+20100*l.length<=100000000->OpOk v (aimP v l)/\(doAllP v (aimP v l)).1.weight<=100000000:=by
 intro l
 induction l with
 |nil=>intro v _ hw;exact ⟨trivial,by rw [aimP,doAllP];simp at hw;exact hw⟩
 | cons a r ih=>
   intro v hs hw
   rw [List.length_cons] at hw
   rw [aimP]
   cases h:oneC v a with
   |none=>exact ih v hs (by omega)
   | some c=>
     dsimp only
     split
     .rename_i h0
      have h1:=zar h h0
      have h2:=Jq h
      obtain ⟨i1,i2⟩:=ih (doP v c).1 (Ql hs) (by omega)
      refine ⟨⟨by omega,hs,by have:=h2.sv;omega,by have:=h2.ss;omega,fun _=>i1⟩, ?_⟩
      rw [doAllP,if_pos h0];exact i2
     .exact ih v hs (by omega)
theorem znl (b:List Cm):∀(a:List Cm) (v:V),OpOk v a->((doAllP v a).2=0->OpOk (doAllP v a).1 b)->OpOk v (a++b):=by
 intro a
 induction a with
 |nil=>intro v _ h;exact h rfl
 | cons c r ih=>
   intro v h hb
   obtain ⟨h1,h2,h3,h4,h5⟩:=h
   refine ⟨h1,h2,h3,h4,fun h0=>ih _ (h5 h0) fun hr=> ?_⟩
   rw [doAllP,if_pos h0] at hb
   exact hb hr
theorem zmm:∀(op:List Cm) (v:V) (l:List Cm),v.sound=true->v.Nums->(∀c ∈ op,c.Nums)->OpOk v op->(doAllP v op).1.weight<=100000000->turnsP v op=(l,0)->OpOk (doAllP v op).1 l.reverse:=by
 intro op
 induction op with
 | nil=>
   intro v l _ _ _ _ _ h
   injection h with h1 h2
   subst h1
   exact trivial
 | cons c r ih=>
   intro v l hv hn hc hok hw h
   obtain ⟨o1,o2,o3,o4,o5⟩:=hok
   rw [turnsP] at h
   by_cases h1:(turnedP v c).2=0
   .rw [if_pos h1] at h
    by_cases h2:(turnsP (doP v c).1 r).2=0
    .rw [if_pos h2] at h
     injection h with h3 h4
     have ht:turnedP v c=((turnedP v c).1,0):=Prod.ext rfl h1
     obtain ⟨b1,b2,b3⟩:=za9 hv hn (hc c (List.mem_cons_self ..)) ht
     have hq:turnsP (doP v c).1 r=((turnsP (doP v c).1 r).1,0):=Prod.ext rfl h2
     have hn1:=zco zce hn (hc c (List.mem_cons_self ..)).2 trivial
     have hcr:∀d ∈ r,d.Nums:=fun d hd=>hc d (List.mem_cons_of_mem _ hd)
     obtain ⟨i1,i2,i3⟩:=ze6 r (Ql hv) hn1 hcr hq
     rw [doAllP,if_pos b1] at hw ⊢
     have hi:=ih (doP v c).1 _ (Ql hv) hn1 hcr (o5 b1) hw hq
     obtain ⟨s1,s2⟩:=zft ht
     rw [<-h3,List.reverse_cons]
     refine znl _ _ _ hi fun _=> ?_
     rw [i2]
     refine ⟨?_,Ql hv,by omega,by omega,fun _=>trivial⟩
     cases r with
     |nil=>exact hw
     |cons d r=>exact (o5 b1).1
    .rw [if_neg h2] at h
     injection h with h3 h4
     exact absurd h4 h2
   .rw [if_neg h1] at h
    injection h with h3 h4
    exact absurd h4 h1
set_option maxRecDepth 100000 in
theorem znr (w:World) (vk vn:Int) (vs:ByteArray) (la:Option Addr) (ll lc:Nat) (oa:Option Addr) (ol oc:Nat) (v:V) (hv:IsVal w w.heap.size v ⟨vk,vn,vs,la,ll,lc,oa,ol,oc⟩) (hw:v.weight<=20000) (l:List Ac) (a:Option Addr) (n c:Nat) (hl:IsActs w w.heap.size l a n c) (hT:Tabs w):
 uP 22 #[.agg (uU vk vn vs la ll lc oa ol oc), .slice a n c] w (AimPost w (aimP v (l.take 20))):=by
 delta uU uP
 obtain ⟨i0,hi0,hz0,hz1,hz2⟩:=info_parts za1
 have hmax:=hl.max;have hcap:=hl.cap
 have HLN:=qh hl.len
 have HAC:=qh hl
 obtain ⟨R,hR⟩:∃R,AimPost w (aimP v (l.take 20))=R:=⟨_,rfl⟩
 rw [hR]
 have HR:=qh hR
 have HS:=qh (AH.start (t:=36) (l.take 20) hv hw)
 have HT:=qh hT
 clear hl hv hR hT
 go_enter Tryz.func22,Tryz.ntmps22
 go_wp2_with fail
 go_loopg [5,6,7,8,9,10] 20 (fun gh u i _ _ _ _ wr=>∃(j:Nat) (x:V) (cx:VC) (ua:Option Addr) (m uc:Nat) (xs:List Cm) (cs:List CC),j<=n/\j<=20/\gh=20 - j/\i= .int .i64 j/\u= .slice ua m uc/\m=xs.length/\AH w wr v (l.take 20) j x cx (.slice ua m uc) xs cs)
 case atStart=>exact ⟨0,v,_,none,0,0, [], [],Nat.zero_le _,Nat.zero_le _,rfl,rfl,rfl,rfl,HS.out⟩
 case round =>
  obtain ⟨j,x,cx,ua,m,uc,xs,cs,hj,hj8,rfl,rfl,rfl,hmx,L⟩:=hrel
  obtain ⟨v0,v1,v2,v3,v4⟩:=row5 L.box.at_
  have zs:=L.box.lt
  have hfx:=L.few
  have HL:=qh L
  have HMX:=qh hmx
  clear L hmx
  by_cases hcont:j<n/\j<20
  .obtain ⟨hlt,hlt8⟩:=hcont
   obtain ⟨b,q,f,hpl,rfl,hbB,hat,hia⟩:=HAC.out.get hlt
   have hat2:=hat.keep HL.out.below hbB
   obtain ⟨act,hact⟩:∃y,l[j] =y:=⟨_,rfl⟩
   rw [hact] at hia
   have hdr:(l.take 20).drop j=act::(l.take 20).drop (j+1):=by
    have h8:j<(l.take 20).length:=by rw [List.length_take];omega
    rw [List.drop_eq_getElem_cons h8,List.getElem_take,hact]
   have HDR:=qh hdr
   have hbw:b<wr.heap.size:=World.block_lt_of_cell? wr _ hat2.c0
   have hzb:=HL.out.below.size
   obtain ⟨r,hr⟩:∃r,oneC x act=r:=⟨_,rfl⟩
   have HRR:=qh hr
   have hwx:x.weight<=20000+20100*20:=Nat.le_trans HL.out.wt (by omega)
   have hval:IsVal wr wr.heap.size x cx:=HL.out.val.sub (Zk _ _ _)
   have HC:Hid (∀W,Below wr.heap.size wr.drew W->uP 14 #[.agg (uV cx), .agg (uA f)] W (OnePost W r)):=fun W hW=>by
    have hbW:uB wr W:=(Zf wr).trans hW
    rw [<-hr]
    exact za2 W cx.k cx.n cx.s cx.la cx.ll cx.lc cx.oa cx.ol cx.oc x (hval.later_ hbW) (by omega) f act ((hia.keep (HL.out.below.trans (hbW.mono hzb))).more (Nat.le_trans hzb hbW.size))
   have HFB:Hid (∀W,Below wr.heap.size wr.drew W->W.cell? ⟨w.heap.size,0,none⟩=some (.int .u8 cx.k)/\W.cell? ⟨w.heap.size,1,none⟩=some (.int .i64 cx.n)/\W.cell? ⟨w.heap.size,2,none⟩=some (.string cx.s)/\W.cell? ⟨w.heap.size,3,none⟩=some (.slice cx.la cx.ll cx.lc)/\W.cell? ⟨w.heap.size,4,none⟩=some (.slice cx.oa cx.ol cx.oc)/\W.cell? ⟨b,q+j*7,none⟩=some (.slice f.pa f.pl f.pc)/\W.cell? ⟨b,q+j*7+1,none⟩=some (.int .u8 f.k)/\W.cell? ⟨b,q+j*7+2,none⟩=some (.int .i64 f.i)/\W.cell? ⟨b,q+j*7+3,none⟩=some (.int .i64 f.j)/\W.cell? ⟨b,q+j*7+4,none⟩=some (.int .i64 f.n)/\W.cell? ⟨b,q+j*7+5,none⟩=some (.string f.s)/\W.cell? ⟨b,q+j*7+6,none⟩=some (.slice f.va f.vl f.vc)):=by
    intro W hW
    have hk:∀b o u,b<wr.heap.size->wr.cell? ⟨b,o,none⟩=some u->W.cell? ⟨b,o,none⟩=some u:=fun b o u hb h=>Za hW (Za (Zf wr) h hb) hb
    exact ⟨hk _ _ _ zs v0,hk _ _ _ zs v1,hk _ _ _ zs v2,hk _ _ _ zs v3,hk _ _ _ zs v4,hk _ _ _ hbw hat2.c0,hk _ _ _ hbw hat2.c1,hk _ _ _ hbw hat2.c2,hk _ _ _ hbw hat2.c3,hk _ _ _ hbw hat2.c4,hk _ _ _ hbw hat2.c5,hk _ _ _ hbw hat2.c6⟩
   have HVAL:=qh hval
   have HWX:=qh hwx
   clear hat hat2 hia hact hdr hr hwx hval
   go_upto_region 5 with fail
   go_cut [7,8] from 11 to 44 (fun c7 c8 wx=>∃(yb:Nat) (cc:CC) (nn:Int),c7= .pointer (some ⟨yb,0,none⟩)/\c8= .int .i64 nn/\BC wx yb (ccells cc)/\Below wr.heap.size wr.drew wx/\wr.heap.size<=yb/\Hid (OneRes wr.heap.size r nn wx cc))
   case first=>
    go_wp2_with fail
    refine wp_region_noPanic ?_
    go_region_held_law (fun W=>W.cell? ⟨w.heap.size,0,none⟩=some (.int .u8 cx.k)/\W.cell? ⟨w.heap.size,1,none⟩=some (.int .i64 cx.n)/\W.cell? ⟨w.heap.size,2,none⟩=some (.string cx.s)/\W.cell? ⟨w.heap.size,3,none⟩=some (.slice cx.la cx.ll cx.lc)/\W.cell? ⟨w.heap.size,4,none⟩=some (.slice cx.oa cx.ol cx.oc)/\W.cell? ⟨b,q+j*7,none⟩=some (.slice f.pa f.pl f.pc)/\W.cell? ⟨b,q+j*7+1,none⟩=some (.int .u8 f.k)/\W.cell? ⟨b,q+j*7+2,none⟩=some (.int .i64 f.i)/\W.cell? ⟨b,q+j*7+3,none⟩=some (.int .i64 f.j)/\W.cell? ⟨b,q+j*7+4,none⟩=some (.int .i64 f.n)/\W.cell? ⟨b,q+j*7+5,none⟩=some (.string f.s)/\W.cell? ⟨b,q+j*7+6,none⟩=some (.slice f.va f.vl f.vc))
     ((refine HFB.out _ ?_;(first|(with_reducible exact bl4)|(with_reducible exact Below.refl _ _)|(with_reducible exact Zr _ _)|(with_reducible exact Below.alloc bl4 bz4 _)|(with_reducible exact Below.setC bl4 (Nat.le_refl _) cc))))
     (first
      |(go_at_call 14;(with_reducible refine (HC.out _ (Below.refl _ _)).mono ?_);rintro e w4 h4;obtain ⟨cc,nn,rfl,ho,hb4⟩:=h4.any;clear h4;have HO:=qh ho;clear ho;have bl4:Below wr.heap.size wr.drew w4:=hb4;have bz4:wr.heap.size<=w4.heap.size:=hb4.size)
      |(go_at_call 14;(with_reducible refine (HC.out _ (Zr _ _)).mono ?_);rintro e w4 h4;obtain ⟨cc,nn,rfl,ho,hb4⟩:=h4.any;clear h4;have HO:=qh ho;clear ho;have bl4:Below wr.heap.size wr.drew w4:=(Zr _ _).trans (hb4.mono (by simp));have bz4:wr.heap.size<=w4.heap.size:=bl4.size;have XB:=Xn hb4;obtain ⟨xc0,xc1,xc2,xc3,xc4,xc5,xc6,xc7,xc8,xc9,xc10,xc11⟩:=row12 XB.at_;have xg0:=XB.fr 0;have xg1:=XB.fr 1;have xg2:=XB.fr 2;have xg3:=XB.fr 3;have xg4:=XB.fr 4;have xg5:=XB.fr 5;have xg6:=XB.fr 6;have xg7:=XB.fr 7;have xg8:=XB.fr 8;have xg9:=XB.fr 9;have xg10:=XB.fr 10;have xg11:=XB.fr 11;have xl:=XB.lt))
    all_goals
     (first
      |(with_reducible refine Zt (P:=fun W=>BC W w4.heap.size (ccells cc)/\Below wr.heap.size wr.drew W/\wr.heap.size<=w4.heap.size/\OneRes wr.heap.size r nn W cc) (zm4 bl4 bz4 cc _ HO.out (Nat.le_refl _)) ?_)
      |(with_reducible refine Zt (P:=fun W=>BC W wr.heap.size (ccells cc)/\Below wr.heap.size wr.drew W/\wr.heap.size<=wr.heap.size/\OneRes wr.heap.size r nn W cc) (zmb bl4 cc XB HO.out (by simp)) ?_))
     rintro W ⟨hbc,hbW,hyb,ho⟩
     have HO2:=qh ho
     clear ho
     go_wp2_with fail
     go_meet
     exact ⟨_,cc,nn,rfl,rfl,hbc,hbW,hyb,HO2⟩
   case rest=>
    clear v0 v1 v2 v3 v4
    obtain ⟨yb,cc,nn,rfl,rfl,Y,hb5,hyb,HO⟩:=hcut
    have hbw5:uB wr wc:=(Zf wr).trans hb5
    have LB:=HL.out.box.keep hbw5 zs
    obtain ⟨v0,v1,v2,v3,v4⟩:=row5 LB.at_
    have vf0:=LB.fr 0;have vf1:=LB.fr 1;have vf2:=LB.fr 2;have vf3:=LB.fr 3;have vf4:=LB.fr 4
    have zs5:=LB.lt
    have HB5:=qh hbw5
    clear LB hb5 hbw5
    cases r with
    | none=>
      obtain rfl:nn=0:=HO.out
      have hrd:aimP x ((l.take 20).drop j)=aimP x ((l.take 20).drop (j+1)):=by rw [HDR.out,aimP,HRR.out]
      have HSK:=qh (HL.out.skip HB5.out hrd)
      clear hrd Y
      go_wp2_with fail
      go_roundg (20 - (j+1))
      case measure=>omega
      case rel=>exact ⟨j+1,x,cx,ua,m,uc,xs,cs,by omega,by omega,rfl,by go_num,rfl,HMX.out,HSK.out⟩
    | some cm=>
      obtain ⟨hn1,hcm⟩:=HO.out
      subst hn1
      have hsm:=Jq HRR.out
      have hzc:=HB5.out.size
      obtain ⟨z,hz⟩:∃z,doP x cm=z:=⟨_,rfl⟩
      have HDO:Hid (uP 16 #[.agg (uV cx), .agg (uC cc)] wc (DoPost wc z)):=by
       rw [<-hz]
       cases hcm with
       | mk _ p xv hbd hp hxv=>
         have h1:=hsm.sv;have h2:=hsm.ss
         dsimp only at h1 h2
         exact zak wc cx.k cx.n cx.s cx.la cx.ll cx.lc cx.oa cx.ol cx.oc x (HVAL.out.later_ HB5.out) (by have:=HWX.out;omega) p xv cc hbd (hp.sub (Zk _ _ _)) (hxv.sub (Zk _ _ _)) (by omega) (fun y hy=>by have:=Zz _ hy;have:=y.str_weight.1;have:=HWX.out;omega) (HT.out.below (HL.out.below.trans (HB5.out.mono hzb)))
      have HCM:=qh hcm
      have HZ:=qh hz
      obtain ⟨y0,y1,y2,y3,y4,y5,y6,y7,y8,y9,y10,y11⟩:=row12 Y.at_
      have zy:=Y.lt
      have HY:=qh Y
      obtain ⟨y,er⟩:=z
      clear hsm hcm hz Y
      go_wp2_with fail
      refine HDO.out.mono ?_
      rintro e w6 ⟨⟨d,rfl,hI6⟩,hb6⟩
      have hz56:=hb6.size
      have LB:=(HL.out.box.keep HB5.out zs).keep hb6 (by omega)
      have Y:=HY.out.keep hb6 zy
      clear v0 v1 v2 v3 v4 vf0 vf1 vf2 vf3 vf4 y0 y1 y2 y3 y4 y5 y6 y7 y8 y9 y10 y11
      obtain ⟨v0,v1,v2,v3,v4⟩:=row5 LB.at_
      have vf0:=LB.fr 0;have vf1:=LB.fr 1;have vf2:=LB.fr 2;have vf3:=LB.fr 3;have vf4:=LB.fr 4
      obtain ⟨y0,y1,y2,y3,y4,y5,y6,y7,y8,y9,y10,y11⟩:=row12 Y.at_
      have zs6:=LB.lt;have zy6:=Y.lt
      have HI6:=qh hI6
      have HB6:=qh hb6
      have HY6:=qh Y
      clear LB Y hI6 hb6
      dsimp only at HI6
      have hal:uB w6 (w6.alloc (.cells (uV d) 36)):=(Below.refl _ _).alloc (Nat.le_refl _) _
      have HAL:=qh hal
      clear hal
      by_cases he:er=0
      .subst he
       have hrd:aimP x ((l.take 20).drop j)=cm::aimP y ((l.take 20).drop (j+1)):=by
        rw [HDR.out,aimP,HRR.out];dsimp only;rw [HZ.out,if_pos rfl]
       have hwy:y.weight<=x.weight+20100:=by
        have:=zar HRR.out (by rw [HZ.out]);rw [HZ.out] at this;exact this
       have hm:=AH.mid HL.out HB5.out HCM.out HB6.out HI6.out (.cells (uV d) 36)
       have HM:=qh hm
       have HRD:=qh hrd
       have HWY:=qh hwy
       have hal7:uB (setV w6 w.heap.size 0 d) ((setV w6 w.heap.size 0 d).alloc (.cells (uV d) 36)):=(Below.refl _ _).alloc (Nat.le_refl _) _
       have hst7:=Zi w6 w.heap.size 0 d
       have hY7:=(HY6.out.next hst7 (by omega)).keep hal7 (Nat.lt_of_lt_of_le zy6 hst7.size)
       have hz7:wr.heap.size<=((setV w6 w.heap.size 0 d).alloc (.cells (uV d) 36)).heap.size:=by have:=hst7.size;have:=hal7.size;omega
       have HY7:=qh hY7
       have HZ7:=qh hz7
       clear hm hrd hwy hY7 hz7 hal7 hst7
       obtain ⟨rfl⟩:m=xs.length:=HMX.out
       go_upto_region 10 with fail
       generalize hw7:World.alloc _ _=w7
       have hm7:AM w wr w7 x y cm d cc (.slice ua xs.length uc) xs cs:=by rw [<-hw7];exact HM.out
       have Y:BC w7 yb (ccells cc):=by rw [<-hw7];exact HY7.out
       have hz7:wr.heap.size<=w7.heap.size:=by rw [<-hw7];exact HZ7.out
       clear hw7 v0 v1 v2 v3 v4 vf0 vf1 vf2 vf3 vf4 y0 y1 y2 y3 y4 y5 y6 y7 y8 y9 y10 y11
       obtain ⟨y0,y1,y2,y3,y4,y5,y6,y7,y8,y9,y10,y11⟩:=row12 Y.at_
       have zy7:=Y.lt
       have hown:=hm7.row.own
       have HM7:=qh hm7
       clear hm7 Y
       go_wp2_with (at_builtin;refine wpList_append_lies _ rfl (.tmp 41) (.tmp 43) 53 (by rfl) (w.heap.size+1) 39 i0 _ 12 168 Tryz.underlying53 hi0 hz0 hz1 hz2 rfl (by omega) (.slice ua xs.length uc) xs.length (cs.flatMap ccells) (by rfl) (hown.alloc _) ⟨w7.heap.size,0,none⟩ 1 1 (ccells cc) (by rfl) (by rfl) (K4 w7 cc _) (by simp [ccells,Value.oneCell']) (by omega) (by unfold maxLen;omega) (by omega) (by first|omega|(simp;omega)) (w7.heap.size+1) (by simp) ?_;intro g cap w9 hown9 hgrow9 hat9 hlt9)
       go_roundg (20 - (j+1))
       case measure=>omega
       case rel=>exact ⟨j+1,y,d,some ⟨g,0,none⟩,xs.length+1,cap,xs++ [cm],cs++ [cc],by omega,by omega,rfl,by go_num,rfl,by simp,HL.out.round HM7.out hz7 HRD.out HWY.out hown9 hgrow9 hat9⟩
      .have hne:(er==0)=false:=by simp [he]
       have hrd:aimP x ((l.take 20).drop j)=aimP x ((l.take 20).drop (j+1)):=by
        rw [HDR.out,aimP,HRR.out];dsimp only;rw [HZ.out,if_neg he]
       have HSK:=qh (HL.out.skip (HB5.out.trans ((HB6.out.trans (HAL.out.mono hz56)).mono hzc)) hrd)
       clear hrd
       go_wp2_with fail
       go_roundg (20 - (j+1))
       case measure=>omega
       case rel=>exact ⟨j+1,x,cx,ua,m,uc,xs,cs,by omega,by omega,rfl,by go_num,rfl,HMX.out,HSK.out⟩
  .have hdr:(l.take 20).drop j= [] :=by
    apply List.drop_eq_nil_of_le
    rw [List.length_take, <-HLN.out];omega
   have hrd:=HL.out.rd
   rw [hdr,aimP,List.append_nil] at hrd
   have HRD:=qh hrd
   have hex:¬j<n∨(j<n/\¬j<20):=by omega
   clear hrd hdr hcont
   rcases hex with hq|⟨hq,hq8⟩
   all_goals
    go_wp2_with fail
    rw [<-HR.out, <-HRD.out,HMX.out]
    exact ⟨⟨_,_,_,rfl,RowC.comps (by rw [<-HMX.out];exact HL.out.row) HL.out.cen (by omega) (by omega)⟩,HL.out.below⟩
theorem zaj (w:World) (o:Obj):uB w (w.alloc o):=(Below.refl _ _).alloc (Nat.le_refl _) o
theorem zn1 {w:World} {B:Nat} {l:List Cm} {a:Option Addr} {n c:Nat} (h:IsComps w B l a n c):∀c ∈ l,c.Nums:=by
 intro c hc
 obtain ⟨j,hj,e⟩:=List.getElem_of_mem hc
 obtain ⟨_,_,f,_,h6⟩:=h.at_
 obtain ⟨_,hic⟩:=h6 j hj
 rw [e] at hic
 cases hic with
 |mk cc p xv hcb hp hxv=>exact ⟨⟨hcb.n0,hcb.n1⟩,V.Num.nums hxv.num⟩
theorem zmj {v:V} {X:List Cm} (hs:v.sound=true) (hn:v.Nums) (hc:∀c ∈ X,c.Nums) (hl:X.length<=200) (hd:(doAllP v X).2=0) (hok:OpOk v X) (hw:(doAllP v X).1.weight<=100000000):
 (∃L,allP v X=(L,0)/\doAllP (doAllP v X).1 L=(v,0)/\L.length=X.length/\OpOk (doAllP v X).1 L)∨allP v X=([],60):=by
 unfold allP
 rw [if_neg (by omega)]
 rcases zjx X v hd with h|h
 .have hq:turnsP v X=((turnsP v X).1,0):=Prod.ext rfl h
  obtain ⟨_,b2,b3⟩:=ze6 X hs hn hc hq
  exact .inl ⟨_,by rw [h],b2,by rw [List.length_reverse];exact b3,zmm X v _ hs hn hc hok hw hq⟩
 .exact .inr (by rw [h];rfl)
end Go.Proofs.YtnjgbiachcfigaaGreatDoor
