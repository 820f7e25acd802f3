/-
  Contracts of the functions that the law reaches: reader.entry: what stands in memory.
-/
import Derived.Test.YtbgheehjfnoiiaaGreatDoorOn8
import Derived.Deep.Onto
namespace Go.Proofs.YtbgheehjfnoiiaaGreatDoor
open Go.RowKit
set_option maxHeartbeats 4000000
def ezero:EC:=⟨0,0,0,vzero,none,0,0⟩
def ecells (c:EC):List Value:= [.int .u8 c.k, .int .u32 c.src, .int .u32 c.seq, .int .u8 c.v.k, .int .i64 c.v.n, .string c.v.s, .slice c.v.la c.v.ll c.v.lc, .slice c.v.oa c.v.ol c.v.oc, .slice c.oa c.ol c.oc]
def PC (l:List Cm) (cs:List CC):World->Nat->Nat->Prop:=fun W B i=>∀h:i<l.length,IsComp W B l[i] (cs.getD i czero)
theorem PC.closed (l:List Cm) (cs:List CC):Closed (PC l cs):=fun _ _ _ _ _ hs hB h hi=>((h hi).sub hs).more hB
theorem PC.snoc {l:List Cm} {cs:List CC} (hl:cs.length=l.length) (x:Cm) (c:CC):(∀W B,IsComp W B x c->PC (l++ [x]) (cs++ [c]) W B l.length)/\∀W B i,i<l.length->PC l cs W B i->PC (l++ [x]) (cs++ [c]) W B i:=by
 constructor
 .intro W B h hi
  simpa [List.getD_eq_getElem?_getD, <-hl] using h
 .intro W B i hi h hi2
  have h:=h hi
  have e:(cs++ [c]).getD i czero=cs.getD i czero:=by simp [List.getD_eq_getElem?_getD,List.getElem?_append_left (show i<cs.length by omega)]
  rw [List.getElem_append_left hi,e]
  exact h
abbrev RowC (w:World) (base:Nat) (u:Value) (l:List Cm) (cs:List CC):Prop:=Row 54 12 w base u l.length (cs.flatMap ccells) (PC l cs)
theorem RowC.comps {w:World} {base lo:Nat} {l:List Cm} {cs:List CC} {a:Option Addr} {n cap:Nat} (h:RowC w base (.slice a n cap) l cs) (hl:cs.length=l.length) (hlo:lo<=base) (hfew:l.length<=1466015503701):
 IsComps (only (fun b=>lo<=b) w) w.heap.size l a n cap:=by
 obtain ⟨h1,h2⟩:=Row.shows (PC.closed l cs) h hlo
 have hown:=h.own
 have hlt:=h.lt
 rcases hown.2 with ⟨e,hn⟩|⟨g,cap',cur,e,hbg,hg,hnc,hcm,hcs,htake⟩
 .injection e with e1 e2 e3;subst e1 e2 e3
  have:l= [] :=List.length_eq_zero_iff.1 hn
  subst this
  exact .nil _ _
 .injection e with e1 e2 e3;subst e1 e2 e3
  refine ⟨rfl,hnc,by simpa [maxLen] using hcm,hfew,g,0,fun i=>cs.getD i czero,fun _=>⟨rfl,(hlt g rfl).2⟩,fun i hi=>⟨?_,h2 i hi hi⟩⟩
  have hi':i<cs.length:=by omega
  have hc:∀t x,t<12->(ccells cs[i])[t]? =some x->(only (fun b=>lo<=b) w).cell? ⟨g,0+i*12+t,none⟩=some x:=fun t x ht hx=>by
   rw [Nat.zero_add]
   exact h1 g rfl (i*12+t) x ((Y0 ccells 12 (fun _=>rfl) cs i t hi' ht).trans hx)
  have he:cs.getD i czero=cs[i] :=by simp [List.getD_eq_getElem?_getD,hi']
  simp only [he]
  exact ⟨hc 0 _ (by omega) rfl,hc 1 _ (by omega) rfl,hc 2 _ (by omega) rfl,hc 3 _ (by omega) rfl,hc 4 _ (by omega) rfl,hc 5 _ (by omega) rfl,⟨hc 6 _ (by omega) rfl,hc 7 _ (by omega) rfl,hc 8 _ (by omega) rfl,hc 9 _ (by omega) rfl,hc 10 _ (by omega) rfl⟩,hc 11 _ (by omega) rfl⟩
structure EB (w W:World) (rb eb:Nat) (r:List UInt8) (v:V) (l:List Cm) (c:EC):Prop where
 rdr:Rdr W rb r 0
 st:RStep w W rb
 res:BC W w.heap.size (ecells ezero)
 box:BC W eb (ecells c)
 val:IsVal (only (fun b=>eb+1<=b) W) W.heap.size v c.v
 ops:IsComps (only (fun b=>eb+1<=b) W) W.heap.size l c.oa c.ol c.oc
 lo:w.heap.size+1<=eb
 lt:rb<w.heap.size
def Neat (oa:Option Addr) (ol oc:Nat):Prop:=(oa=none/\ol=0/\oc=0)∨0<ol
theorem zc2 (o:List (ByteArray×V)) (key:ByteArray) (x:V):0<(withF o key x).length/\(withF o key x).length<=o.length+1:=by
 have:=Yo o key
 unfold withF
 rw [List.length_append,List.length_cons,List.length_drop,List.length_take,Nat.min_eq_left this]
 refine ⟨by omega, ?_⟩
 split
 .rename_i h;have:=Xg h;omega
 .omega
def WithPost2 (w:World) (B0:Nat) (l:List (ByteArray×V)) (e:Ending) (w':World):Prop:=
 (∃a n c,e= .returned (.slice a n c)/\IsFields (only (fun b=>B0<=b) w') w'.heap.size l a n c/\Neat a n c)/\Below w.heap.size w w'
set_option maxRecDepth 100000 in
theorem Kw (w:World) (B0:Nat) (hB0:B0<=w.heap.size) (o:List (ByteArray×V)) (oa:Option Addr) (ol oc:Nat) (ho:IsFields (only (fun k=>B0<=k) w) w.heap.size o oa ol oc) (hne:Neat oa ol oc) (key:ByteArray) (hks:key.size<=140737488355328) (x:V) (xk xn:Int) (xs:ByteArray) (xa:Option Addr) (xl xc:Nat) (ya:Option Addr) (yl yc:Nat) (hx:IsVal (only (fun k=>B0<=k) w) w.heap.size x ⟨xk,xn,xs,xa,xl,xc,ya,yl,yc⟩) (hfew:ol<=1000000):
 uP 56 #[.slice oa ol oc, .string key, .agg (uU xk xn xs xa xl xc ya yl yc)] w (WithPost2 w B0 (withF o key x)):=by
 delta uU uP
 have go:uP 56 #[.slice oa ol oc, .string key, .agg (uU xk xn xs xa xl xc ya yl yc)] w (WithPost w B0 (withF o key x)):=by
  rcases hne with ⟨rfl,rfl,rfl⟩|hp
  .have:o= [] :=List.eq_nil_of_length_eq_zero ho.len.symm
   subst this
   exact zf7 w B0 hB0 key hks x ⟨xk,xn,xs,xa,xl,xc,ya,yl,yc⟩ hx
  .obtain ⟨cs,b,off,_,hab,_,_⟩:=ho.cells
   obtain ⟨rfl,hb⟩:=hab hp
   have hlen:=ho.len
   have hcap:=ho.cap
   have hkl:=Yo o key
   cases his:fieldIs o key with
   | false=>
     by_cases hk:fieldK o key=oc
     .exact zi5 w B0 hB0 o b off ol oc ho key hks x ⟨xk,xn,xs,xa,xl,xc,ya,yl,yc⟩ hx hp hfew his hk
     .exact zlu w B0 hB0 o b off ol oc ho key hks x ⟨xk,xn,xs,xa,xl,xc,ya,yl,yc⟩ hx hp hfew his (by omega)
   | true=>
     have hlt:=Xg his
     by_cases hk:fieldK o key+1=oc
     .exact zj2 w B0 hB0 o b off ol oc ho key hks x ⟨xk,xn,xs,xa,xl,xc,ya,yl,yc⟩ hx hp hfew his hk
     .exact zhb w B0 hB0 o b off ol oc ho key hks x ⟨xk,xn,xs,xa,xl,xc,ya,yl,yc⟩ hx hp hfew his (by omega)
 refine go.mono ?_
 rintro e w' ⟨⟨a,n,c,rfl,h1,h2⟩,h3⟩
 exact ⟨⟨a,n,c,rfl,h1, .inr (by rw [h1.len];exact (zc2 o key x).1)⟩,h3⟩
def keyP (l:List Tk) (u:Nat):ByteArray:=match l[u]? with
 |some t=>plainS t.s
 |none=> .empty
def bL (f:List Tk->V×Nat) (l:List Tk):Nat->List V×Nat
 |0=>([],1)
 |i+1=>((bL f l i).1++ [(f (l.drop (bL f l i).2)).1],(bL f l i).2+(f (l.drop (bL f l i).2)).2)
def bO (f:List Tk->V×Nat) (l:List Tk):Nat->List (ByteArray×V)×Nat
 |0=>([],1)
 |i+1=>(withF (bO f l i).1 (keyP l (bO f l i).2) (f (l.drop (bO f l i).2)).1,(bO f l i).2+(f (l.drop (bO f l i).2)).2)
def leafP (t:Tk):V:=if t.k % 6=1 then .mk 1 (t.n % 2) .empty [] [] else if t.k % 6=2 then .mk 2 t.n .empty [] [] else if t.k % 6=3 then .mk 3 0 (plainS t.s) [] []
 else if t.k % 6=4 then .mk 4 0 .empty [] [] else if t.k % 6=5 then .mk 5 0 .empty [] [] else V.none
def oneP:Nat->List Tk->V×Nat
 |_, [] =>(V.none,0)
 |0,t::_=>(leafP t,1)
 | d+1,t::r=>if t.k % 6=4 then (.mk 4 0 .empty (bL (oneP d) (t::r) (t.m % 4).toNat).1 [],(bL (oneP d) (t::r) (t.m % 4).toNat).2)
   else if t.k % 6=5 then (.mk 5 0 .empty [] (bO (oneP d) (t::r) (t.m % 4).toNat).1,(bO (oneP d) (t::r) (t.m % 4).toNat).2)
   else (leafP t,1)
theorem zck {f:List Tk->V×Nat} (hf:∀l,(f l).2<=l.length) {l:List Tk} (hl:1<=l.length) (j:Nat):1<=(bL f l j).2/\(bL f l j).2<=l.length/\(bL f l j).1.length=j:=by
 induction j with
 |zero=>exact ⟨Nat.le_refl _,hl,rfl⟩
 | succ j ih=>
   have:=hf (l.drop (bL f l j).2)
   rw [List.length_drop] at this
   rw [bL]
   refine ⟨by dsimp only;omega,by dsimp only;omega,by dsimp only;rw [List.length_append,List.length_singleton];omega⟩
theorem zc1 {f:List Tk->V×Nat} (hf:∀l,(f l).2<=l.length) {l:List Tk} (hl:1<=l.length) (j:Nat):1<=(bO f l j).2/\(bO f l j).2<=l.length/\(bO f l j).1.length<=j:=by
 induction j with
 |zero=>exact ⟨Nat.le_refl _,hl,Nat.le_refl _⟩
 | succ j ih=>
   have:=hf (l.drop (bO f l j).2)
   rw [List.length_drop] at this
   rw [bO]
   refine ⟨by dsimp only;omega,by dsimp only;omega, ?_⟩
   have:=(zc2 (bO f l j).1 (keyP l (bO f l j).2) (f (l.drop (bO f l j).2)).1).2
   dsimp only;omega
theorem Qs (d:Nat):∀l,(oneP d l).2<=l.length:=by
 induction d with
 | zero=>
   intro l
   cases l with
   |nil=>simp [oneP]
   |cons t r=>simp [oneP]
 | succ d ih=>
   intro l
   cases l with
   |nil=>simp [oneP]
   | cons t r=>
     rw [oneP]
     split
     .exact (zck ih (by simp) _).2.1
     .split
      .exact (zc1 ih (by simp) _).2.1
      .simp
theorem Y5 (s:ByteArray):(plainS s).size<=40:=by
 show (plainL s.data.toList).toArray.size<=40
 simp [plainL];omega
theorem zcb (l:List Tk) (u:Nat):(keyP l u).size<=40:=by
 unfold keyP
 split
 .exact Y5 _
 .decide
set_option maxRecDepth 100000 in
theorem zic (w:World) (s key:ByteArray) (c:VC) (kb:Nat) (hk:w.cell? ⟨kb,0,none⟩=some (.string key)):
 uP 152 #[.agg #[.string s, .int .u8 c.k, .int .i64 c.n, .string c.s, .slice c.la c.ll c.lc, .slice c.oa c.ol c.oc], .pointer (some ⟨kb,0,none⟩)] w fun e w'=>e= .returned (.bool (!Op.bytesLess s.toList key.toList))/\uB w w':=by
 delta uB uP
 have hkb:kb<w.heap.size:=World.block_lt_of_cell? w _ hk
 go_enter Tryz.func152,Tryz.ntmps152
 go_wp2_with fail
 go_returns
 exact ⟨rfl,(Below.refl _ _).alloc (Nat.le_refl _) _⟩
def fieldAt (o:List (ByteArray×V)) (key:ByteArray):Int:=if fieldK o key<o.length then (fieldK o key:Int) else -1
set_option maxRecDepth 100000 in
theorem zmo (w:World) (o:List (ByteArray×V)) (key:ByteArray) (a:Option Addr) (n c:Nat) (h:IsFields w w.heap.size o a n c) (kb:Nat) (hk:w.cell? ⟨kb,0,none⟩=some (.string key)):
 uP 151 #[.slice a n c, .func (.func 152) #[] #[.pointer (some ⟨kb,0,none⟩)]] w fun e w'=>e= .returned (.int .i64 (fieldAt o key))/\uB w w':=by
 delta uB uP
 have hkb:kb<w.heap.size:=World.block_lt_of_cell? w _ hk
 have k1:=h.max;have k2:=h.few
 have HLn:=qh h.len
 have HI:=qh h
 have HK:=qh hk
 have eg:=enters_of Tryz.func152 (by kernel_rfl) rfl
 clear h hk
 obtain ⟨R,hR⟩:∃R,fieldAt o key=R:=⟨_,rfl⟩
 rw [hR]
 have HR:=qh hR
 clear hR
 go_enter Tryz.func151,Tryz.ntmps151
 go_wp2_with fail
 go_loopw [5,8] (fun _ i wr=>∃j:Nat,j<=n/\i= .int .i64 j/\Hid (∀i (hi:i<o.length),i<j->Op.bytesLess (o[i]'hi).1.toList key.toList=true)/\uB w wr) (fun _ i _=>n - (intOf i).toNat)
 case atStart=>exact ⟨0,Nat.zero_le _,rfl,qh (fun i hi hj=>by omega),Below.refl _ _⟩
 case round=>
  obtain ⟨j,hj,rfl,hall,hbl⟩:=hrel
  have HBL:=qh hbl
  by_cases hlt:j<n
  .obtain ⟨b,o',f,hp,rfl,hbB,hkey,hks,hv,_⟩:=(HI.out.keep hbl).get hlt
   have c0:=hv.c0;have c1:=hv.c1;have c2:=hv.c2;have c3:=hv.c3;have c4:=hv.c4
   have hbw:b<wr.heap.size:=World.block_lt_of_cell? wr _ hkey
   obtain ⟨nb,hnb⟩:∃nb,(!Op.bytesLess (o[j]'hp).1.toList key.toList)=nb:=⟨_,rfl⟩
   have HC:Hid (uP 152 #[.agg #[.string (o[j]'hp).1, .int .u8 f.k, .int .i64 f.n, .string f.s, .slice f.la f.ll f.lc, .slice f.oa f.ol f.oc], .pointer (some ⟨kb,0,none⟩)] wr fun e w'=>e= .returned (.bool nb)/\uB wr w'):=by
    rw [<-hnb];exact zic wr _ key f kb (Zb hbl HK.out hkb)
   cases nb with
   | false=>
     have hlb:Op.bytesLess (o[j]'hp).1.toList key.toList=true:=by simpa using hnb
     have HLB:=qh hlb
     clear hbl hlb hv hnb
     go_wp2_with fail
     refine HC.out.mono ?_
     rintro e w' ⟨rfl,hb'⟩
     go_wp2_with fail
     go_roundw
     case rel=>exact ⟨j+1,by omega,by go_num,qh (fun i hi hij=>by
      by_cases e:i=j
      .subst e;exact HLB.out
      .exact hall.out i hi (by omega)),HBL.out.on hb' HBL.out.size⟩
     case measure=>simp [intOf];omega
   | true=>
     have hlb:Op.bytesLess (o[j]'hp).1.toList key.toList=false:=by simpa using hnb
     have hf:fieldK o key=j:=Q5 o key j hall.out (by omega) (.inr ⟨hp,hlb⟩)
     have HF:=qh hf
     clear hbl hlb hv hf hnb
     go_wp2_with fail
     refine HC.out.mono ?_
     rintro e w' ⟨rfl,hb'⟩
     go_wp2_with fail
     go_ret
     exact ⟨by rw [<-HR.out,fieldAt,HF.out,if_pos hp];rfl,HBL.out.on hb' HBL.out.size⟩
  .have hj2:j=n:=by omega
   have hf:fieldK o key=n:=Q5 o key n (fun i hi hin=>hall.out i hi (by omega)) (by rw [HLn.out];exact Nat.le_refl _) (.inl HLn.out)
   have HF:=qh hf
   clear hbl hf hj2
   go_wp2_with fail
   go_ret
   exact ⟨by rw [<-HR.out,fieldAt,HF.out,if_neg (by have:=HLn.out;omega)];rfl,HBL.out⟩
theorem zg6 (o:List (ByteArray×V)) (key:ByteArray):fieldK o key<=o.length:=by
 unfold fieldK
 exact (List.takeWhile_sublist _).length_le
set_option maxRecDepth 100000 in
theorem Jo (w:World) (o:List (ByteArray×V)) (key:ByteArray) (c:VC) (h:IsFields w w.heap.size o c.oa c.ol c.oc):
 uP 113 #[.agg (uV c), .string key] w fun e w'=>e= .returned (.tuple #[.int .i64 (fieldK o key:Int), .bool (fieldIs o key)])/\uB w w':=by
 delta uV uB uP
 have k1:=h.max;have k2:=h.few
 have HL:=qh h.len
 have HI:=qh h
 have hal:uB w ((w.alloc (.cells (uV c) 29)).alloc (.cells #[.string key] 9)):=((Below.refl _ _).alloc (Nat.le_refl _) _).alloc (by simp) _
 have hbc:=(BC.start w (uV c) 29).keep ((Below.refl _ _).alloc (Nat.le_refl _) (.cells #[.string key] 9)) (by simp)
 have hbk:=BC.start (w.alloc (.cells (uV c) 29)) #[.string key] 9
 rw [World.size_alloc] at hbk
 obtain ⟨w1,hw1⟩:∃w1,(w.alloc (.cells (uV c) 29)).alloc (.cells #[.string key] 9)=w1:=⟨_,rfl⟩
 rw [hw1] at hal hbc hbk
 have HW1:=qh hw1
 obtain ⟨k,hk⟩:∃k,fieldK o key=k:=⟨_,rfl⟩
 obtain ⟨is,his⟩:∃is,fieldIs o key=is:=⟨_,rfl⟩
 have hC:=zmo w1 o key c.oa c.ol c.oc ((HI.out.keep hal).more hal.size) (w.heap.size+1) (hbk.at_ 0 _ rfl)
 rw [fieldAt,hk] at hC
 rw [hk,his]
 have HC:=qh hC
 have HK:=qh hk
 have HIS:=qh his
 have hkl:=zg6 o key
 rw [hk, <-HL.out] at hkl
 have b0:=hbc.at_ 4 _ rfl
 have b1:=hbk.at_ 0 _ rfl
 have HAL:=qh hal
 have HBC:=qh hbc
 have HBK:=qh hbk
 clear hw1 hC hk his hal hbc hbk h
 go_enter Tryz.func113,Tryz.ntmps113
 go_wp2_with fail
 rw [HW1.out]
 refine HC.out.mono ?_
 rintro e w' ⟨rfl,hb'⟩
 have D:=HBC.out.keep hb' HBC.out.lt
 have D2:=HBK.out.keep hb' HBK.out.lt
 have q4:=D.at_ 4 _ rfl
 have q0:=D2.at_ 0 _ rfl
 have z1:=D.lt;have z2:=D2.lt
 have HB':=qh (HAL.out.trans (hb'.mono HAL.out.size))
 clear D D2 b0 b1
 by_cases hlt:k<o.length
 .rw [if_pos hlt]
  obtain ⟨b,o',f,hp,hoa,hbB,hkey,hks,hv,_⟩:=(HI.out.keep HB'.out).get (k:=k) (by have:=HL.out;omega)
  rw [hoa] at q4
  have hbw:b<w'.heap.size:=World.block_lt_of_cell? w' _ hkey
  obtain ⟨eb,heb⟩:∃eb,((o[k]'hp).1.toList==key.toList)=eb:=⟨_,rfl⟩
  have hi:is=eb:=by
   rw [<-HIS.out,fieldIs,HK.out,List.getElem?_eq_getElem hp];exact heb
  have HII:=qh hi
  have hlt2:k<c.ol:=by have:=HL.out;omega
  clear hi hv
  go_wp2_with fail
  go_quiet (fail)
  go_wp2_with fail
  go_returns
  exact ⟨by rw [HII.out];rfl,Z7 HB'.out _⟩
 .rw [if_neg hlt]
  have hkn:k=c.ol:=by have:=HL.out;omega
  have hi:is=false:=by
   rw [<-HIS.out,fieldIs,HK.out,List.getElem?_eq_none (by omega)]
  have HKN:=qh hkn
  have HII:=qh hi
  clear hkn hi
  go_wp2_with fail
  go_returns
  exact ⟨by rw [HKN.out,HII.out];rfl,HB'.out⟩
theorem zbz {W:World} {base:Nat} {e:TypeId} {g n cap:Nat} {cl:List VC} (h:W.ownsRow base e 5 (.slice (some ⟨g,0,none⟩) n cap) n (cl.flatMap vcells)) {k:Nat} (hk:k<cl.length) (z:VC):
 (setV W g (k*5) z).ownsRow base e 5 (.slice (some ⟨g,0,none⟩) n cap) n ((cl.set k z).flatMap vcells):=by
 have h1:=(h.stored (k*5) (.int .u8 z.k)).1
 have h2:=(h1.stored (k*5+1) (.int .i64 z.n)).1
 have h3:=(h2.stored (k*5+2) (.string z.s)).1
 have h4:=(h3.stored (k*5+3) (.slice z.la z.ll z.lc)).1
 have h5:=(h4.stored (k*5+4) (.slice z.oa z.ol z.oc)).1
 rw [zai cl k hk z] at h5
 exact h5
theorem zgq {W:World} {base:Nat} {e:TypeId} {g n cap:Nat} {co:List (ByteArray×VC)} (h:W.ownsRow base e 6 (.slice (some ⟨g,0,none⟩) n cap) n (co.flatMap fcells)) {k:Nat} (hk:k<co.length) (z:VC):
 (setV W g (k*6+1) z).ownsRow base e 6 (.slice (some ⟨g,0,none⟩) n cap) n ((co.set k (co[k].1,z)).flatMap fcells):=by
 have h1:=(h.stored (k*6+1) (.int .u8 z.k)).1
 have h2:=(h1.stored (k*6+1+1) (.int .i64 z.n)).1
 have h3:=(h2.stored (k*6+1+2) (.string z.s)).1
 have h4:=(h3.stored (k*6+1+3) (.slice z.la z.ll z.lc)).1
 have h5:=(h4.stored (k*6+1+4) (.slice z.oa z.ol z.oc)).1
 rw [zad co k hk z] at h5
 exact h5
theorem RStep.grown {w w':World} {rb:Nat} (h:RStep w w' rb):w.grownBy w' (some rb):=⟨h.os,h.tape,h.output,h.size,fun k hk hne=>h.block k hk (fun e=>hne (by rw [e]))⟩
theorem RStep.lowC {w w':World} {rb B:Nat} (h:RStep w w' rb) (hB:B<=rb) (hw:B<=w.heap.size):Below B w w':=⟨h.os,h.tape,h.output,h.size,fun k hk=>h.block k (by omega) (by omega)⟩
def Soft (w:World) (S:Nat->Prop):Prop:=∀k q,S k->w.frozen? ⟨k,q,none⟩=false
def SepI (w:World) (lo hi:Nat) (v:V) (c:VC):Prop:=∃S:Nat->Prop,(∀k,S k->lo<=k/\k<hi)/\Soft w S/\Sep w S v c
structure Half (w wr:World) (base:Nat) (l:List V) (o:List (ByteArray×V)) (u uo:Value) (cl:List VC) (co:List (ByteArray×VC)) (j:Nat) (s:Nat->Nat):Prop where
 lenL:cl.length=l.length
 lenO:co.length=o.length
 keys:∀i (h:i<o.length) (h':i<co.length),co[i].1=o[i].1/\o[i].1.size<=140737488355328
 rowL:wr.ownsRow base 29 5 u l.length (cl.flatMap vcells)
 rowO:wr.ownsRow base 62 6 uo o.length (co.flatMap fcells)
 apart:∀g,u.ownBlock=some g->uo.ownBlock≠some g
 loL:∀g,u.ownBlock=some g->g<s 0
 loO:∀g,uo.ownBlock=some g->g<s 0
 s0:base<=s 0
 sj:s j=wr.heap.size
 jm:j<=l.length+o.length
 mono:∀i i',i<=i'->i'<=j->s i<=s i'
 elsL:∀i (h:i<l.length) (h':i<cl.length),i<j->SepI wr (s i) (s (i+1)) l[i] cl[i]
 elsO:∀i (h:i<o.length) (h':i<co.length),l.length+i<j->SepI wr (s (l.length+i)) (s (l.length+i+1)) o[i].2 co[i].2
 oldL:∀i (h:i<l.length) (h':i<cl.length),j<=i->IsVal w w.heap.size l[i] cl[i]
 oldO:∀i (h:i<o.length) (h':i<co.length),j<=l.length+i->IsVal w w.heap.size o[i].2 co[i].2
def more (s:Nat->Nat) (j z:Nat):Nat->Nat:=fun i=>if i<=j then s i else z
theorem Zs {s:Nat->Nat} {j z i:Nat} (h:i<=j):more s j z i=s i:=if_pos h
theorem Xv {s:Nat->Nat} {j z i:Nat} (h:j<i):more s j z i=z:=if_neg (by omega)
theorem zbm {s:Nat->Nat} {j z:Nat} (h:∀i i',i<=i'->i'<=j->s i<=s i') (hz:s j<=z):∀i i',i<=i'->i'<=j+1->more s j z i<=more s j z i':=by
 intro i i' h1 h2
 by_cases h3:i'<=j
 .rw [Zs h3,Zs (by omega)];exact h i i' h1 h3
 .rw [Xv (i:=i') (by omega)]
  by_cases h4:i<=j
  .rw [Zs h4];exact Nat.le_trans (h i j h4 (Nat.le_refl _)) hz
  .rw [Xv (by omega)];exact Nat.le_refl _
theorem Sep.stay {w w4 W:World} {S:Nat->Prop} {v:V} {c:VC} {g:Nat} (h:Sep w S v c) (hb:uB w w4) (st:RStep w4 W g) (hg:¬S g):Sep W S v c:=
 h.keep (Nat.le_trans hb.size st.size) fun k q hk=>by
   have hk2:=h.bnd k hk
   exact World.cell?_of_block ((st.block k (Nat.lt_of_lt_of_le hk2 hb.size) (fun e=>hg (e ▸ hk))).trans (hb.block k hk2))
theorem Yq {w w':World} {k q:Nat} (h:w'.heap[k]? =w.heap[k]?):w'.frozen? ⟨k,q,none⟩=w.frozen? ⟨k,q,none⟩:=by
 simp only [World.frozen?,h]
theorem SepI.stay {w w4 W:World} {lo hi:Nat} {v:V} {c:VC} {g:Nat} (h:SepI w lo hi v c) (hb:uB w w4) (st:RStep w4 W g) (hg:¬(lo<=g/\g<hi)):SepI W lo hi v c:=by
 obtain ⟨S,h1,h2,h3⟩:=h
 have hgS:¬S g:=fun e=>hg (h1 g e)
 refine ⟨S,h1,fun k q hk=> ?_,h3.stay hb st hgS⟩
 have hk2:=h3.bnd k hk
 rw [Yq ((st.block k (Nat.lt_of_lt_of_le hk2 hb.size) (fun e=>hgS (e ▸ hk))).trans (hb.block k hk2))]
 exact h2 k q hk
theorem SepI.at_ {w:World} {lo hi lo' hi':Nat} {v:V} {c:VC} (h:SepI w lo hi v c) (e1:lo=lo') (e2:hi=hi'):SepI w lo' hi' v c:=by subst e1 e2;exact h
theorem Half.stepL {w wr w4:World} {base:Nat} {l:List V} {o:List (ByteArray×V)} {u uo:Value} {cl:List VC} {co:List (ByteArray×VC)} {j:Nat} {s:Nat->Nat} (h:Half w wr base l o u uo cl co j s) (hj:j<l.length) {g nn cap:Nat} (hu:u= .slice (some ⟨g,0,none⟩) nn cap) {cx:VC}
 (hb:uB wr w4) (hs:SepI w4 wr.heap.size w4.heap.size l[j] cx):Half w (setV w4 g (j*5) cx) base l o u uo (cl.set j cx) co (j+1) (more s j w4.heap.size):=by
 have st:=Zi w4 g (j*5) cx
 have hsz:(setV w4 g (j*5) cx).heap.size=w4.heap.size:=by simp [setV]
 have hgl:g<s 0:=h.loL g (by rw [hu];rfl)
 have hs0:s 0<=s j:=h.mono 0 j (Nat.zero_le _) (Nat.le_refl _)
 have hsj:=h.sj
 have hw4:=hb.size
 have hnn:nn=l.length:=by
  have h1:=h.rowL
  rw [hu] at h1
  rcases h1.2 with ⟨e,_⟩|⟨_,_,_,e,_⟩
  .cases e
  .injection e
 refine ⟨by rw [List.length_set];exact h.lenL,h.lenO,h.keys, ?_, ?_,h.apart,fun g' hg'=>by rw [Zs (Nat.zero_le _)];exact h.loL g' hg',fun g' hg'=>by rw [Zs (Nat.zero_le _)];exact h.loO g' hg',by rw [Zs (Nat.zero_le _)];exact h.s0,by rw [Xv (Nat.lt_succ_self j),hsz],by have:=h.jm;omega,zbm h.mono (by omega),fun i hi hi' hij=> ?_,fun i hi hi' hij=> ?_,fun i hi hi' hij=> ?_,fun i hi hi' hij=>h.oldO i hi hi' (by omega)⟩
 .have h1:w4.ownsRow base 29 5 u l.length (cl.flatMap vcells):=h.rowL.kept (row:=none) ⟨hb.os,hb.tape,hb.output,hb.size,fun k hk _=>hb.block k hk⟩ (by cases hv:u.ownBlock<;>simp)
  subst hnn
  rw [hu] at h1 ⊢
  exact zbz h1 (by rw [h.lenL];exact hj) cx
 .have h1:w4.ownsRow base 62 6 uo o.length (co.flatMap fcells):=h.rowO.kept (row:=none) ⟨hb.os,hb.tape,hb.output,hb.size,fun k hk _=>hb.block k hk⟩ (by cases hv:uo.ownBlock<;>simp)
  exact h1.kept st.grown (.inr (h.apart g (by rw [hu];rfl)))
 .by_cases hi2:i<j
  .rw [List.getElem_set_ne (by omega)]
   exact ((h.elsL i hi (by rw [h.lenL];exact hi) hi2).stay hb st (fun e=>by have h1:=e.1;have h2:=h.mono 0 i (Nat.zero_le _) (by omega);omega)).at_ (Zs (by omega)).symm (Zs (by omega)).symm
  .obtain rfl:i=j:=by omega
   rw [List.getElem_set_self]
   exact (hs.stay (Below.refl _ _) st (fun e=>by have h1:=e.1;omega)).at_ (by rw [Zs (Nat.le_refl _),hsj]) (Xv (Nat.lt_succ_self _)).symm
 .refine SepI.at_ ?_ (Zs (by omega)).symm (Zs (by omega)).symm
  exact (h.elsO i hi hi' (by omega)).stay hb st (fun e=>by have h1:=e.1;have h2:=h.mono 0 (l.length+i) (Nat.zero_le _) (by omega);omega)
 .rw [List.getElem_set_ne (by omega)]
  exact h.oldL i hi (by rw [h.lenL];exact hi) (by omega)
theorem Half.stepO {w wr w4:World} {base:Nat} {l:List V} {o:List (ByteArray×V)} {u uo:Value} {cl:List VC} {co:List (ByteArray×VC)} {j:Nat} {s:Nat->Nat} (h:Half w wr base l o u uo cl co (l.length+j) s) (hj:j<o.length) {g nn cap:Nat} (hu:uo= .slice (some ⟨g,0,none⟩) nn cap) {cx:VC} (hjc:j<co.length)
 (hb:uB wr w4) (hs:SepI w4 wr.heap.size w4.heap.size o[j].2 cx):Half w (setV w4 g (j*6+1) cx) base l o u uo cl (co.set j (co[j].1,cx)) (l.length+(j+1)) (more s (l.length+j) w4.heap.size):=by
 have st:=Zi w4 g (j*6+1) cx
 have hsz:(setV w4 g (j*6+1) cx).heap.size=w4.heap.size:=by simp [setV]
 have hgl:g<s 0:=h.loO g (by rw [hu];rfl)
 have hs0:s 0<=s (l.length+j):=h.mono 0 _ (Nat.zero_le _) (Nat.le_refl _)
 have hsj:=h.sj
 have hw4:=hb.size
 have hnn:nn=o.length:=by
  have h1:=h.rowO
  rw [hu] at h1
  rcases h1.2 with ⟨e,_⟩|⟨_,_,_,e,_⟩
  .cases e
  .injection e
 refine ⟨h.lenL,by rw [List.length_set];exact h.lenO,fun i hi hi'=> ?_, ?_, ?_,h.apart,fun g' hg'=>by rw [Zs (Nat.zero_le _)];exact h.loL g' hg',fun g' hg'=>by rw [Zs (Nat.zero_le _)];exact h.loO g' hg',by rw [Zs (Nat.zero_le _)];exact h.s0,by rw [Xv (show l.length+j<l.length+(j+1) by omega),hsz],by have:=h.jm;omega,zbm h.mono (show s (l.length+j)<=w4.heap.size by omega),fun i hi hi' hij=> ?_,fun i hi hi' hij=> ?_,fun i hi hi' hij=>h.oldL i hi hi' (by omega),fun i hi hi' hij=> ?_⟩
 .by_cases e:i=j
  .subst e
   rw [List.getElem_set_self];exact h.keys i hi hjc
  .rw [List.getElem_set_ne (fun e'=>e e'.symm)];exact h.keys i hi (by rw [h.lenO];exact hi)
 .have h1:w4.ownsRow base 29 5 u l.length (cl.flatMap vcells):=h.rowL.kept (row:=none) ⟨hb.os,hb.tape,hb.output,hb.size,fun k hk _=>hb.block k hk⟩ (by cases hv:u.ownBlock<;>simp)
  exact h1.kept st.grown (.inr (fun e=>h.apart g e (by rw [hu];rfl)))
 .have h1:w4.ownsRow base 62 6 uo o.length (co.flatMap fcells):=h.rowO.kept (row:=none) ⟨hb.os,hb.tape,hb.output,hb.size,fun k hk _=>hb.block k hk⟩ (by cases hv:uo.ownBlock<;>simp)
  subst hnn
  rw [hu] at h1 ⊢
  exact zgq h1 hjc cx
 .refine SepI.at_ ?_ (Zs (by omega)).symm (Zs (by omega)).symm
  exact (h.elsL i hi hi' (by omega)).stay hb st (fun e=>by have h1:=e.1;have h2:=h.mono 0 i (Nat.zero_le _) (by omega);omega)
 .by_cases hi2:i<j
  .rw [List.getElem_set_ne (by omega)]
   exact ((h.elsO i hi (by rw [h.lenO];exact hi) (by omega)).stay hb st (fun e=>by have h1:=e.1;have h2:=h.mono 0 (l.length+i) (Nat.zero_le _) (by omega);omega)).at_ (Zs (by omega)).symm (Zs (by omega)).symm
  .obtain rfl:i=j:=by omega
   rw [List.getElem_set_self]
   exact (hs.stay (Below.refl _ _) st (fun e=>by have h1:=e.1;omega)).at_ (by rw [Zs (Nat.le_refl _),hsj]) (Xv (show l.length+i<l.length+i+1 by omega)).symm
 .rw [List.getElem_set_ne (by omega)]
  exact h.oldO i hi (by rw [h.lenO];exact hi) (by omega)
theorem Half.next {w wr W:World} {B j:Nat} {l:List V} {o:List (ByteArray×V)} {u uo:Value} {cl:List VC} {co:List (ByteArray×VC)} {s:Nat->Nat} (h:Half w wr (B+2) l o u uo cl co j s) (st:RStep wr W (B+1)) (hz:W.heap.size=wr.heap.size):Half w W B l o u uo cl co j s:=by
 have hs0:=h.s0
 have ne:∀i,i<=j->¬(s i<=B+1/\B+1<s (i+1)):=fun i hi e=>by have h1:=e.1;have h2:=h.mono 0 i (Nat.zero_le _) hi;omega
 refine ⟨h.lenL,h.lenO,h.keys,(h.rowL.kept st.grown (.inr fun e=> ?_)).mono (Nat.le_add_right _ _),(h.rowO.kept st.grown (.inr fun e=> ?_)).mono (Nat.le_add_right _ _),h.apart,h.loL,h.loO,by omega,by rw [hz];exact h.sj,h.jm,h.mono,fun i hi hi' hij=>(h.elsL i hi hi' hij).stay (Below.refl _ _) st (ne _ (by omega)),fun i hi hi' hij=>(h.elsO i hi hi' hij).stay (Below.refl _ _) st (ne _ (by omega)),h.oldL,h.oldO⟩
 .have:=(h.rowL.lt _ e).1;omega
 .have:=(h.rowO.lt _ e).1;omega
theorem Half.beside {w wr W:World} {base j g:Nat} {l:List V} {o:List (ByteArray×V)} {u uo:Value} {cl:List VC} {co:List (ByteArray×VC)} {s:Nat->Nat} (h:Half w wr base l o u uo cl co j s) (st:RStep wr W g) (hg:g<base) (hz:W.heap.size=wr.heap.size):Half w W base l o u uo cl co j s:=by
 have hs0:=h.s0
 have ne:∀i,i<=j->¬(s i<=g/\g<s (i+1)):=fun i hi e=>by have h1:=e.1;have h2:=h.mono 0 i (Nat.zero_le _) hi;omega
 refine ⟨h.lenL,h.lenO,h.keys,h.rowL.kept st.grown (.inr fun e=> ?_),h.rowO.kept st.grown (.inr fun e=> ?_),h.apart,h.loL,h.loO,h.s0,by rw [hz];exact h.sj,h.jm,h.mono,fun i hi hi' hij=>(h.elsL i hi hi' hij).stay (Below.refl _ _) st (ne _ (by omega)),fun i hi hi' hij=>(h.elsO i hi hi' hij).stay (Below.refl _ _) st (ne _ (by omega)),h.oldL,h.oldO⟩
 .have:=(h.rowL.lt _ e).1;omega
 .have:=(h.rowO.lt _ e).1;omega
theorem Half.low {w wr:World} {base base' j:Nat} {l:List V} {o:List (ByteArray×V)} {u uo:Value} {cl:List VC} {co:List (ByteArray×VC)} {s:Nat->Nat} (h:Half w wr base l o u uo cl co j s) (hb:base'<=base):Half w wr base' l o u uo cl co j s:=
 ⟨h.lenL,h.lenO,h.keys,h.rowL.mono hb,h.rowO.mono hb,h.apart,h.loL,h.loO,Nat.le_trans hb h.s0,h.sj,h.jm,h.mono,h.elsL,h.elsO,h.oldL,h.oldO⟩
def Whole (w:World) (base:Nat) (x:V) (d:VC):Prop:=
 x= .mk d.k d.n d.s x.ls x.os/\d.Bnd/\∃(cl:List VC) (co:List (ByteArray×VC)) (S:Nat->Nat) (W0:World),Half W0 w base x.ls x.os (.slice d.la d.ll d.lc) (.slice d.oa d.ol d.oc) cl co (x.ls.length+x.os.length) S
theorem Whole.beside {w W:World} {base g:Nat} {x:V} {d:VC} (h:Whole w base x d) (st:RStep w W g) (hg:g<base) (hz:W.heap.size=w.heap.size):Whole W base x d:=by
 obtain ⟨h1,h2,cl,co,S,W0,h3⟩:=h
 exact ⟨h1,h2,cl,co,S,W0,h3.beside st hg hz⟩
theorem Whole.low {w:World} {base base':Nat} {x:V} {d:VC} (h:Whole w base x d) (hb:base'<=base):Whole w base' x d:=by
 obtain ⟨h1,h2,cl,co,S,W0,h3⟩:=h
 exact ⟨h1,h2,cl,co,S,W0,h3.low hb⟩
theorem Half.done {w wr:World} {base:Nat} {l:List V} {o:List (ByteArray×V)} {cl:List VC} {co:List (ByteArray×VC)} {s:Nat->Nat} {c:VC} (h:Half w wr base l o (.slice c.la c.ll c.lc) (.slice c.oa c.ol c.oc) cl co (l.length+o.length) s) (hb:c.Bnd):
 SepI wr base wr.heap.size (.mk c.k c.n c.s l o) c:=by
 have rL:c.ll=l.length/\(0<c.ll->∃g,c.la=some ⟨g,0,none⟩):=by
  rcases h.rowL.2 with ⟨e,e2⟩|⟨g,cap,cur,e,_⟩
  .injection e with e3 e4 e5;exact ⟨by omega,fun h0=>by omega⟩
  .injection e with e3 e4 e5;exact ⟨e4,fun _=>⟨g,e3⟩⟩
 have rO:c.ol=o.length/\(0<c.ol->∃g,c.oa=some ⟨g,0,none⟩):=by
  rcases h.rowO.2 with ⟨e,e2⟩|⟨g,cap,cur,e,_⟩
  .injection e with e3 e4 e5;exact ⟨by omega,fun h0=>by omega⟩
  .injection e with e3 e4 e5;exact ⟨e4,fun _=>⟨g,e3⟩⟩
 obtain ⟨gl,hgl⟩:∃gl,0<c.ll->c.la=some ⟨gl,0,none⟩:=by
  by_cases h0:0<c.ll
  .obtain ⟨g,hg⟩:=rL.2 h0;exact ⟨g,fun _=>hg⟩
  .exact ⟨0,fun h1=>absurd h1 h0⟩
 obtain ⟨go,hgo⟩:∃go,0<c.ol->c.oa=some ⟨go,0,none⟩:=by
  by_cases h0:0<c.ol
  .obtain ⟨g,hg⟩:=rO.2 h0;exact ⟨g,fun _=>hg⟩
  .exact ⟨0,fun h1=>absurd h1 h0⟩
 have oL:0<c.ll->(Value.slice c.la c.ll c.lc).ownBlock=some gl:=fun h0=>by rw [hgl h0];rfl
 have oO:0<c.ol->(Value.slice c.oa c.ol c.oc).ownBlock=some go:=fun h0=>by rw [hgo h0];rfl
 have hz:∀i,i<=l.length+o.length->s i<=wr.heap.size:=fun i hi=>by rw [<-h.sj];exact h.mono i _ hi (Nat.le_refl _)
 have hm:∀i,i<=l.length+o.length->s 0<=s i:=fun i hi=>h.mono 0 i (Nat.zero_le _) hi
 have cL:∀i,i<l.length->ValAt wr gl (i*5) (cl.getD i c):=fun i hi=>by
  have h1:=h.rowL
  rw [hgl (by omega),rL.1] at h1
  have hl:=h.lenL
  have e:cl.getD i c=cl[i]'(by omega):=by simp [List.getD_eq_getElem?_getD,show i<cl.length by omega]
  rw [e]
  have hbc:∀j v,(cl.flatMap vcells)[j]? =some v->wr.cell? ⟨gl,j,none⟩=some v:=fun j v hj=>by
   have hlen:(cl.flatMap vcells).length=l.length*5:=h1.1
   rw [h1.cellAt j (by have:=(List.getElem?_eq_some_iff.1 hj).1;omega)];exact hj
  exact Yp ⟨hbc,fun j=>h1.frozenAt j,(h1.lt gl rfl).2⟩ (by omega)
 have cO:∀i (hi:i<o.length),wr.cell? ⟨go,i*6,none⟩=some (.string o[i].1)/\o[i].1.size<=140737488355328/\ValAt wr go (i*6+1) (co.getD i (.empty,c)).2:=fun i hi=>by
  have h1:=h.rowO
  rw [hgo (by omega),rO.1] at h1
  have hl:=h.lenO
  have e:co.getD i (.empty,c)=co[i]'(by omega):=by simp [List.getD_eq_getElem?_getD,show i<co.length by omega]
  rw [e]
  have hbc:∀j v,(co.flatMap fcells)[j]? =some v->wr.cell? ⟨go,j,none⟩=some v:=fun j v hj=>by
   have hlen:(co.flatMap fcells).length=o.length*6:=h1.1
   rw [h1.cellAt j (by have:=(List.getElem?_eq_some_iff.1 hj).1;omega)];exact hj
  obtain ⟨g1,g2⟩:=Z3 (W:=wr) (g:=go) ⟨hbc,fun j=>h1.frozenAt j,(h1.lt go rfl).2⟩ (i:=i) (by omega)
  obtain ⟨k1,k2⟩:=h.keys i hi (by omega)
  exact ⟨by rw [<-k1];exact g1,k2,g2⟩
 have hlL:=h.lenL;have hlO:=h.lenO
 obtain ⟨TL,hTL⟩:=Classical.axiomOfChoice (fun i=>show ∃S:Nat->Prop,∀(hi:i<l.length) (hi':i<cl.length),(∀k,S k->s i<=k/\k<s (i+1))/\Soft wr S/\Sep wr S l[i] cl[i] by
  by_cases hi:i<l.length
  .obtain ⟨S,h1⟩:=h.elsL i hi (by omega) (by omega)
   exact ⟨S,fun _ _=>h1⟩
  .exact ⟨fun _=>False,fun h1 _=>absurd h1 hi⟩)
 obtain ⟨TO,hTO⟩:=Classical.axiomOfChoice (fun i=>show ∃S:Nat->Prop,∀(hi:i<o.length) (hi':i<co.length),(∀k,S k->s (l.length+i)<=k/\k<s (l.length+i+1))/\Soft wr S/\Sep wr S o[i].2 co[i].2 by
  by_cases hi:i<o.length
  .obtain ⟨S,h1⟩:=h.elsO i hi (by omega) (by omega)
   exact ⟨S,fun _ _=>h1⟩
  .exact ⟨fun _=>False,fun h1 _=>absurd h1 hi⟩)
 have bL:∀i,i<l.length->∀k,TL i k->s i<=k/\k<s (i+1):=fun i hi k hk=>(hTL i hi (by omega)).1 k hk
 have bO:∀i,i<o.length->∀k,TO i k->s (l.length+i)<=k/\k<s (l.length+i+1):=fun i hi k hk=>(hTO i hi (by omega)).1 k hk
 refine ⟨fun k=>(0<c.ll/\k=gl)∨(0<c.ol/\k=go)∨(∃i,i<l.length/\TL i k)∨(∃i,i<o.length/\TO i k),fun k hk=> ?_,fun k q hk=> ?_, ?_⟩
 .rcases hk with ⟨h0,rfl⟩|⟨h0,rfl⟩|⟨i,hi,hk⟩|⟨i,hi,hk⟩
  .exact h.rowL.lt _ (oL h0)
  .exact h.rowO.lt _ (oO h0)
  .have h1:=bL i hi k hk;have h3:=hm i (by omega);have h4:=hz (i+1) (by omega);have h5:=h.s0
   omega
  .have h1:=bO i hi k hk;have h3:=hm (l.length+i) (by omega);have h4:=hz (l.length+i+1) (by omega);have h5:=h.s0
   omega
 .rcases hk with ⟨h0,rfl⟩|⟨h0,rfl⟩|⟨i,hi,hk⟩|⟨i,hi,hk⟩
  .have h1:=h.rowL
   rw [hgl h0,rL.1] at h1
   exact h1.frozenAt q
  .have h1:=h.rowO
   rw [hgo h0,rO.1] at h1
   exact h1.frozenAt q
  .exact (hTL i hi (by omega)).2.1 k q hk
  .exact (hTO i hi (by omega)).2.1 k q hk
 refine .mk _ c l o (fun i=>cl.getD i c) (fun i=>(co.getD i (.empty,c)).2) gl go TL TO hb rL.1 rO.1 (fun k hk=> ?_) (fun h0=>⟨hgl h0, .inl ⟨h0,rfl⟩⟩) (fun h0=>⟨hgo h0, .inr (.inl ⟨h0,rfl⟩)⟩) (fun h0 h1 e=> ?_) cL cO (fun i hi=> ?_) (fun i hi=> ?_) (fun i hi k hk=> ?_) (fun i hi k hk=> ?_) (fun i i' hi hi' hne k hk hk'=> ?_) (fun i i' hi hi' hne k hk hk'=> ?_) (fun i i' hi hi' k hk hk'=> ?_)
 .rcases hk with ⟨h0,rfl⟩|⟨h0,rfl⟩|⟨i,hi,hk⟩|⟨i,hi,hk⟩
  .exact (h.rowL.lt _ (oL h0)).2
  .exact (h.rowO.lt _ (oO h0)).2
  .have h1:=bL i hi k hk;have h4:=hz (i+1) (by omega);omega
  .have h1:=bO i hi k hk;have h4:=hz (l.length+i+1) (by omega);omega
 .exact h.apart gl (oL h0) (by rw [oO h1,e])
 .have e:cl.getD i c=cl[i]'(by omega):=by simp [List.getD_eq_getElem?_getD,show i<cl.length by omega]
  rw [e];exact (hTL i hi (by omega)).2.2
 .have e:co.getD i (.empty,c)=co[i]'(by omega):=by simp [List.getD_eq_getElem?_getD,show i<co.length by omega]
  rw [e];exact (hTO i hi (by omega)).2.2
 .have h1:=bL i hi k hk;have h3:=hm i (by omega)
  exact ⟨.inr (.inr (.inl ⟨i,hi,hk⟩)),fun e=>by have:=h.loL gl (oL (by omega));omega,fun h0 e=>by have:=h.loO go (oO h0);omega⟩
 .have h1:=bO i hi k hk;have h3:=hm (l.length+i) (by omega)
  exact ⟨.inr (.inr (.inr ⟨i,hi,hk⟩)),fun e=>by have:=h.loO go (oO (by omega));omega,fun h0 e=>by have:=h.loL gl (oL h0);omega⟩
 .have h1:=bL i hi k hk;have h3:=bL i' hi' k hk'
  rcases Nat.lt_or_ge i i' with h5|h5
  .have:=h.mono (i+1) i' (by omega) (by omega);omega
  .have:=h.mono (i'+1) i (by omega) (by omega);omega
 .have h1:=bO i hi k hk;have h3:=bO i' hi' k hk'
  rcases Nat.lt_or_ge i i' with h5|h5
  .have:=h.mono (l.length+i+1) (l.length+i') (by omega) (by omega);omega
  .have:=h.mono (l.length+i'+1) (l.length+i) (by omega) (by omega);omega
 .have h1:=bL i hi k hk;have h3:=bO i' hi' k hk'
  have:=h.mono (i+1) (l.length+i') (by omega) (by omega);omega
theorem Whole.sepI {w:World} {base:Nat} {x:V} {d:VC} (h:Whole w base x d):SepI w base w.heap.size x d:=by
 obtain ⟨h1,h2,cl,co,S,W0,h3⟩:=h
 rw [h1];exact h3.done h2
theorem SepI.isVal {w:World} {lo hi:Nat} {x:V} {d:VC} (h:SepI w lo hi x d):IsVal (only (fun b=>lo<=b) w) w.heap.size x d:=by
 obtain ⟨S,h1,_,h3⟩:=h
 exact h3.isVal fun k hk=>(h1 k hk).1
theorem zc3 (cl:List VC):∀i,(cl.flatMap vcells).take (i*5)=(cl.take i).flatMap vcells:=by
 induction cl with
 |nil=>intro i;simp
 | cons c r ih=>
   intro i
   cases i with
   |zero=>simp
   | succ i=>
     rw [List.flatMap_cons,List.take_succ_cons,List.flatMap_cons, <-ih i,List.take_append,List.take_of_length_le (by simp [vcells];omega),show (i+1)*5 - (vcells c).length=i*5 by simp [vcells];omega]
theorem J4 (cl:List VC):∀i,(cl.flatMap vcells).drop (i*5)=(cl.drop i).flatMap vcells:=by
 induction cl with
 |nil=>intro i;simp
 | cons c r ih=>
   intro i
   cases i with
   |zero=>simp
   | succ i=>
     rw [List.flatMap_cons,List.drop_succ_cons, <-ih i,List.drop_append,List.drop_eq_nil_of_le (by simp [vcells];omega),List.nil_append,show (i+1)*5 - (vcells c).length=i*5 by simp [vcells];omega]
structure VRow (w:World) (base:Nat) (u:Value) (l:List V) (cl:List VC):Prop where
 len:cl.length=l.length
 own:w.ownsRow base 29 5 u l.length (cl.flatMap vcells)
 els:∀i (h:i<l.length) (h':i<cl.length),IsVal (only (fun k=>base<=k/\u.ownBlock≠some k) w) w.heap.size l[i] cl[i]
theorem VRow.of {w:World} {base:Nat} {l:List V} {d:VC} {x:V} (h:Whole w base x d) (hx:x.ls=l):∃cl,VRow w base (.slice d.la d.ll d.lc) l cl:=by
 obtain ⟨h1,h2,cl,co,S,W0,h3⟩:=h
 subst hx
 refine ⟨cl,h3.lenL,h3.rowL,fun i hi hi'=> ?_⟩
 obtain ⟨T,t1,_,t3⟩:=h3.elsL i hi hi' (by omega)
 refine t3.isVal fun k hk=> ?_
 have h0:=h3.mono 0 i (Nat.zero_le _) (by omega)
 have:=t1 k hk
 exact ⟨by have:=h3.s0;omega,fun e=>by have:=h3.loL k e;omega⟩
theorem IsVal.rowed {w w':World} {base:Nat} {u u':Value} {x:V} {c:VC} (h:IsVal (only (fun k=>base<=k/\u.ownBlock≠some k) w) w.heap.size x c) (hg:w.grownBy w' u.ownBlock) (hu:u'.ownBlock=u.ownBlock∨u'.ownBlock=some w.heap.size):
 IsVal (only (fun k=>base<=k/\u'.ownBlock≠some k) w') w'.heap.size x c:=
 (h.sub (Ze fun k hk hl=>⟨⟨hk.1,fun e=>by
  rcases hu with hu|hu
  .exact hk.2 (hu ▸ e)
  .rw [hu] at e;injection e with e;omega⟩,hg.block k hl (fun e=>hk.2 e.symm)⟩)).more hg.size
theorem VRow.ins {w w':World} {base i:Nat} {u u':Value} {l:List V} {cl:List VC} {x:V} {cx:VC} (h:VRow w base u l cl) (hi:i<=l.length) (hx:IsVal (only (fun k=>base<=k/\u.ownBlock≠some k) w) w.heap.size x cx)
 (ho:w'.ownsRow base 29 5 u' (l.length+1) ((cl.flatMap vcells).take (i*5)++vcells cx++(cl.flatMap vcells).drop (i*5))) (hg:w.grownBy w' u.ownBlock) (hu:u'.ownBlock=u.ownBlock∨u'.ownBlock=some w.heap.size):
 VRow w' base u' (insL l i x) (cl.take i++cx::cl.drop i):=by
 have hl:=h.len
 refine ⟨by simp [insL,hl], ?_,fun k hk hk'=> ?_⟩
 .rw [zc3,J4] at ho
  have e:(insL l i x).length=l.length+1:=by simp [insL];omega
  rw [e,List.flatMap_append,List.flatMap_cons, <-List.append_assoc]
  exact ho
 .simp only [insL] at hk ⊢
  by_cases h1:k<i
  .rw [List.getElem_append_left (by rw [List.length_take];omega),List.getElem_append_left (by rw [List.length_take];omega),List.getElem_take,List.getElem_take]
   exact (h.els k (by omega) (by omega)).rowed hg hu
  .rw [List.getElem_append_right (by rw [List.length_take];omega),List.getElem_append_right (by rw [List.length_take];omega)]
   have e1:k - (l.take i).length=k - i:=by rw [List.length_take];omega
   have e2:k - (cl.take i).length=k - i:=by rw [List.length_take];omega
   simp only [e1,e2]
   rw [List.length_append,List.length_cons,List.length_take,List.length_drop] at hk
   by_cases h2:k - i=0
   .rw [List.getElem_cons,List.getElem_cons,dif_pos h2,dif_pos h2]
    exact hx.rowed hg hu
   .rw [List.getElem_cons,List.getElem_cons,dif_neg h2,dif_neg h2,List.getElem_drop,List.getElem_drop]
    exact (h.els (i+(k - i - 1)) (by omega) (by omega)).rowed hg hu
theorem VRow.rem {w w':World} {base i:Nat} {u u':Value} {l:List V} {cl:List VC} (h:VRow w base u l cl) (hi:i<l.length)
 (ho:w'.ownsRow base 29 5 u' (l.length - 1) ((cl.flatMap vcells).take (i*5)++(cl.flatMap vcells).drop ((i+1)*5))) (hg:w.grownBy w' u.ownBlock) (hu:u'.ownBlock=u.ownBlock∨u'.ownBlock=some w.heap.size):
 VRow w' base u' (remL l i) (cl.take i++cl.drop (i+1)):=by
 have hl:=h.len
 refine ⟨by simp [remL,hl], ?_,fun k hk hk'=> ?_⟩
 .rw [zc3,J4] at ho
  have e:(remL l i).length=l.length - 1:=by simp [remL];omega
  rw [e,List.flatMap_append]
  exact ho
 .simp only [remL] at hk ⊢
  rw [List.length_append,List.length_take,List.length_drop] at hk
  by_cases h1:k<i
  .rw [List.getElem_append_left (by rw [List.length_take];omega),List.getElem_append_left (by rw [List.length_take];omega),List.getElem_take,List.getElem_take]
   exact (h.els k (by omega) (by omega)).rowed hg hu
  .rw [List.getElem_append_right (by rw [List.length_take];omega),List.getElem_append_right (by rw [List.length_take];omega)]
   have e1:k - (l.take i).length=k - i:=by rw [List.length_take];omega
   have e2:k - (cl.take i).length=k - i:=by rw [List.length_take];omega
   simp only [e1,e2,List.getElem_drop]
   exact (h.els (i+1+(k - i)) (by omega) (by omega)).rowed hg hu
theorem zi4 {cl:List VC} {i:Nat} (hi:i<cl.length) {j:Nat} {v:Value} (h:(vcells cl[i])[j]? =some v):(cl.flatMap vcells)[i*5+j]? =some v:=by
 rw [<-List.getElem?_drop,J4,List.drop_eq_getElem_cons hi,List.flatMap_cons,List.getElem?_append_left (List.getElem?_eq_some_iff.1 h).1]
 exact h
theorem VRow.at_ {w:World} {base i:Nat} {u:Value} {l:List V} {cl:List VC} (h:VRow w base u l cl) (hi:i<l.length) (hi':i<cl.length):
 ∃g cap,u= .slice (some ⟨g,0,none⟩) l.length cap/\base<=g/\g<w.heap.size/\l.length<=cap/\cap<=maxLen/\ValAt w g (i*5) cl[i] /\∀q,w.frozen? ⟨g,q,none⟩=false:=by
 rcases h.own.2 with ⟨rfl,h0⟩|⟨g,cap,cur,rfl,hbg,hg,hnc,hcm,hcs,htk⟩
 .omega
 .have hc:∀j v,(vcells cl[i])[j]? =some v->w.cell? ⟨g,i*5+j,none⟩=some v:=fun j v hj=>by
   have:=h.own.cells (g:=g) rfl (i*5+j) v (zi4 hi' hj)
   rw [Addr.add_lit,Nat.zero_add] at this;exact this
  refine ⟨g,cap,rfl,hbg,(Array.getElem?_eq_some_iff.1 hg).1,hnc,hcm,⟨hc 0 _ rfl,hc 1 _ rfl,hc 2 _ rfl,hc 3 _ rfl,hc 4 _ rfl⟩,fun q=>by simp [World.frozen?,hg]⟩
theorem VRow.set {w:World} {base g i cap:Nat} {l:List V} {cl:List VC} {x:V} {cx:VC} (h:VRow w base (.slice (some ⟨g,0,none⟩) l.length cap) l cl) (hi:i<l.length) (hx:IsVal (only (fun k=>base<=k/\(Value.slice (some ⟨g,0,none⟩) l.length cap).ownBlock≠some k) w) w.heap.size x cx):
 VRow (setV w g (i*5) cx) base (.slice (some ⟨g,0,none⟩) l.length cap) (l.set i x) (cl.set i cx):=by
 have hl:=h.len
 have st:=Zi w g (i*5) cx
 have mv:∀ {y:V} {c:VC},IsVal (only (fun k=>base<=k/\(Value.slice (some ⟨g,0,none⟩) l.length cap).ownBlock≠some k) w) w.heap.size y c->IsVal (only (fun k=>base<=k/\(Value.slice (some ⟨g,0,none⟩) l.length cap).ownBlock≠some k) (setV w g (i*5) cx)) (setV w g (i*5) cx).heap.size y c:=fun hy=>
  hy.rowed (u:= .slice (some ⟨g,0,none⟩) l.length cap) (u':= .slice (some ⟨g,0,none⟩) l.length cap) st.grown (.inl rfl)
 refine ⟨by simp [hl],by rw [List.length_set];exact zbz h.own (by omega) cx,fun k hk hk'=> ?_⟩
 rw [List.length_set] at hk hk'
 by_cases e:i=k
 .subst e
  rw [List.getElem_set_self,List.getElem_set_self]
  exact mv hx
 .rw [List.getElem_set_ne e,List.getElem_set_ne e]
  exact mv (h.els k hk hk')
end Go.Proofs.YtbgheehjfnoiiaaGreatDoor
