/-
  Contracts of the functions that the law reaches: op.Trim.
-/
import Derived.Test.YtbgheehjfnoiiaaGreatDoorOn39
import Derived.Deep.RegionWith
import Derived.Deep.RegionHeld
namespace Go.Proofs.YtbgheehjfnoiiaaGreatDoor
open Go.RowKit
set_option maxHeartbeats 16000000
theorem zm0 {w w2:World} {B B2:Nat} {z cm:Cm} {d cc:CC} (hz:IsComp w B z d) (hc:IsComp w2 B2 cm cc) (h:mergeV d cc=none):joinC z cm=none:=by
 cases hz with
 |mk d p xv hb hp hx=>
 cases hc with
 |mk cc p2 xv2 hb2 hp2 hx2=>
 unfold mergeV at h;unfold joinC
 dsimp only
 by_cases h0:d.k≠cc.k∨eqB p p2=false
 .rw [if_pos h0]
 rw [if_neg h0]
 split at h
 .cases h
 .rename_i k1
  split at h
  .rename_i k2
   split at h
   .cases h
   .rename_i k3
    rw [if_neg k1,if_neg (fun e=>k3 e.2),if_neg (by omega)]
  .rename_i k2
   split at h
   .split at h
    .cases h
    .rename_i k4
     rw [if_neg k1,if_neg (fun e=>k2 e.1),if_neg (fun e=>k4 e.2)]
   .rename_i k3
    rw [if_neg k1,if_neg (fun e=>k2 e.1),if_neg (fun e=>k3 e.1)]
theorem zf1 {w w2:World} {B B2:Nat} {z cm:Cm} {d cc m:CC} (hz:IsComp w B z d) (hc:IsComp w2 B2 cm cc) (hk:d.k=cc.k) (hp:eqB z.path cm.path=true) (hs:d.s.size+cc.s.size<=140737488355328) (h:mergeV d cc=some m):∃M:Cm,joinC z cm=(if idleB M=true then some none else some (some M))/\(M.k=m.k/\M.n=m.n/\M.i=m.i/\M.j=m.j)/\∀W C,IsComp W C z d->IsComp W C cm cc->IsComp W C M m:=by
 cases hz with
 |mk d p xv hb hp0 hx=>
 cases hc with
 |mk cc p2 xv2 hb2 hp2 hx2=>
 unfold mergeV at h;unfold joinC
 dsimp only at hp ⊢
 rw [if_neg (by rw [hp];simp [hk])]
 split at h
 .rename_i k1
  injection h with h;subst h
  refine ⟨⟨d.k,p,d.key,d.i,d.j,wrap64 (d.n+cc.n),xv,d.s⟩, ?_,⟨rfl,rfl,rfl,rfl⟩,fun W C h1 _=>zky h1 (by unfold wrap64;omega) (by unfold wrap64;omega)⟩
  rw [if_pos k1]
  have k0:d.k=1:=by omega
  by_cases e:wrap64 (d.n+cc.n)=0
  .rw [if_pos e,if_pos (by simp [idleB,k0,e])]
  .rw [if_neg e,if_neg (by simp [idleB,k0,e])]
 .rename_i k1
  split at h
  .rename_i k2
   split at h
   .rename_i k3
    injection h with h;subst h
    refine ⟨⟨cc.k,p2,cc.key,cc.i,cc.j,cc.n,xv2,cc.s⟩, ?_,⟨rfl,rfl,rfl,rfl⟩,fun W C _ h2=>h2⟩
    rw [if_neg k1,if_pos ⟨k2,k3⟩,if_neg (by simp [idleB,k2])]
   .cases h
  .rename_i k2
   split at h
   .rename_i k3
    split at h
    .rename_i k4
     injection h with h;subst h
     have hsz:(d.s++cc.s).size<=140737488355328:=by rw [ByteArray.size_append];exact hs
     refine ⟨⟨d.k,p,d.key,d.i,d.j,d.n,xv,d.s++cc.s⟩, ?_,⟨rfl,rfl,rfl,rfl⟩,fun W C h1 _=>zgm h1 hsz⟩
     rw [if_neg k1,if_neg (fun e=>k2 e.1),if_pos ⟨k3,k4⟩,if_neg (by simp [idleB,hk,k3])]
    .cases h
   .cases h
theorem RowC.snocF {w4 w9:World} {base:Nat} {a:Option Addr} {m c:Nat} {xs:List Cm} {cs:List CC} {cm:Cm} {d:CC} {g cap:Nat} (h:RowC w4 base (.slice a m c) xs cs) (hl:cs.length=xs.length) (hd:IsComp (only (Free base (.slice a m c)) w4) w4.heap.size cm d)
 (hown:w9.ownsRow base 54 12 (.slice (some ⟨g,0,none⟩) (xs.length+1) cap) (xs.length+1) (cs.flatMap ccells++ccells d)) (hg:(w4.alloc (.cells #[.int .u8 d.k, .slice d.pa d.pl d.pc, .string d.key, .int .i64 d.i, .int .i64 d.j, .int .i64 d.n, .int .u8 d.v.k, .int .i64 d.v.n, .string d.v.s, .slice d.v.la d.v.ll d.v.lc, .slice d.v.oa d.v.ol d.v.oc, .string d.s] 54)).grownBy w9 (Value.slice a m c).ownBlock) (hat:(Value.slice a m c).ownBlock=some g∨g=w4.heap.size+1):
 RowC w9 base (.slice (some ⟨g,0,none⟩) (xs.length+1) cap) (xs++ [cm]) (cs++ [d]):=by
 obtain ⟨s1,s2⟩:=PC.snoc (l:=xs) (cs:=cs) hl cm d
 have hnew:PC (xs++ [cm]) (cs++ [d]) (only (Free base (.slice a m c)) w4) w4.heap.size xs.length:=s1 _ _ hd
 have hpush:=Row.push (PC.closed (xs++ [cm]) (cs++ [d])) h (Qa w4 _) hg (u':= .slice (some ⟨g,0,none⟩) (xs.length+1) cap) (news:=ccells d) hown (by
  rcases hat with e|e
  .left;rw [e];rfl
  .right;intro b hb;have:g=b:=by simpa [Value.ownBlock] using hb
   omega) hnew s2
 show Row _ _ _ _ _ _ _ _
 rw [Yf,List.length_append,List.length_singleton]
 exact hpush
theorem zhm {W W':World} {b:Nat} {cs:List Value} (h:BC W b cs) (hb:W'.heap[b]? =W.heap[b]?):BC W' b cs:=by
 have hlt:=h.lt
 have hl:b<W'.heap.size:=by
  cases hq:Nat.decLt b W'.heap.size with
  |isTrue h=>exact h
  |isFalse h2=>rw [Array.getElem?_eq_none (by omega),Array.getElem?_eq_getElem hlt] at hb;cases hb
 exact ⟨fun j x hj=>(World.cell?_of_block (a:=⟨b,j,none⟩) hb).trans (h.at_ j x hj),fun j=>(World.frozen?_of_block (a:=⟨b,j,none⟩) hb).trans (h.fr j),hl⟩
theorem Zn {P:Program} {md:Region.Mode} {ops:Array Oper} {Q:Exit->Act->World->Prop} {S:World->Prop} {i:Nat} {d:Option Nat} {oi:Oper} {v:Value} {fuel:Nat} {listed:Array Bool} {a:Act} {w:World} (hi:ops[i]? =some oi) (hd:oi.dst=d)
 (hs:Region.noSelect ops=true) (hf:Region.free md ops listed i=true) (hr:(Region.ready md ops listed).contains i=true)
 (hQ:∀c a w,Q (.panic c) (a.put oi.dst v) w->Q (.panic c) a w) (hy:YieldsIf P ops S oi v a) (hS:S w)
 (h:wpAnyH P md ops Q S fuel (listed.setIfInBounds i true) (a.put d v) w):wpAnyH P md ops Q S (fuel+1) listed a w:=by
 subst hd
 exact wpAnyH_take hi hs hf hr hQ hy hS h
structure LT (w w3 wr:World) (op:List Cm) (j:Nat) (L:List Cm) (u:Value) (cs:List CC):Prop where
 row:RowC wr w.heap.size u L cs
 cen:cs.length=L.length
 is:L=(op.take j).foldl ontoP []
 own:∀k,u.ownBlock=some k->w3.heap.size<=k
 below:Below w.heap.size w wr
 low:Below w3.heap.size w3 wr
structure TQ (w w3 wc wx:World) (L:List Cm) (a:Option Addr) (N c:Nat) (cs:List CC) (cm:Cm) (q:Bool):Prop where
 no:q=false->Below wc.heap.size wc wx/\ontoP L cm=L++ [cm]
 yes:q=true->∃l cs' m M g J,a=some ⟨g,0,none⟩/\N=J+1/\l.length=J/\cs'.length=J/\RowC wx w.heap.size (.slice (some ⟨g,0,none⟩) (J+1) c) (l++ [M]) (cs'++ [m])/\(M.k=m.k/\M.n=m.n/\M.i=m.i/\M.j=m.j)/\ontoP L cm=(if idleB M=true then l else l++ [M])/\Below w.heap.size w wx/\Below w3.heap.size w3 wx
theorem K4 {l:List Cm} {z cm:Cm} (h:idleB cm=false):ontoP (l++ [z]) cm=match joinC z cm with
 |none=>l++ [z] ++ [cm]
 |some none=>l
 |some (some m)=>l++ [m] :=by
 unfold ontoP
 rw [if_neg (by simp [h]),List.getLast?_append]
 simp only [List.getLast?_singleton,Option.some_or,List.dropLast_concat]
 cases joinC z cm with
 |none=>rfl
 |some q=>cases q<;>rfl
theorem zcq {l:List Cm} {z cm:Cm} (h:idleB cm=false) (hj:joinC z cm=none):ontoP (l++ [z]) cm=l++ [z] ++ [cm] :=by
 rw [K4 h,hj]
theorem zd4 {l:List Cm} {z cm M:Cm} (h:idleB cm=false) (hj:joinC z cm=(if idleB M=true then some none else some (some M))):ontoP (l++ [z]) cm=if idleB M=true then l else l++ [M] :=by
 rw [K4 h,hj]
 by_cases e:idleB M=true
 .rw [if_pos e,if_pos e]
 .rw [if_neg e,if_neg e]
theorem zkr {w w3 w4 w5 w6:World} {l:List Cm} {z cm:Cm} {cs:List CC} {d cc:CC} {g J c:Nat} {e:Ending} (hJ:l.length=J) (hcJ:cs.length=J) (hr4:RowC w4 w.heap.size (.slice (some ⟨g,0,none⟩) (J+1) c) (l++ [z]) (cs++ [d])) (hi:idleB cm=false) (hk:d.k=cc.k) (hp:eqB z.path cm.path=true) (hic:IsComp (only (fun k=>w.heap.size<=k/\k<w3.heap.size) w4) w4.heap.size cm cc) (hg3:w3.heap.size<=g) (hs:d.s.size+cc.s.size<=140737488355328) (hb5:uB w4 w5) (hm:MgPost w5 w.heap.size g c J cs d (mergeV d cc) e w6) (hwb:uB w w4) (hlow:uB w3 w4):TQ w w3 w4 w6 (l++ [z]) (some ⟨g,0,none⟩) (J+1) c (cs++ [d]) cm (mergeV d cc).isSome:=by
 obtain ⟨he,ho,hblk,hsz,hbel,hno⟩:=hm
 have hz:IsComp (only (Free w.heap.size (.slice (some ⟨g,0,none⟩) (J+1) c)) w4) w4.heap.size z d:=by
  have:=hr4.els J (by simp [hJ]) (by simp [hJ])
  rwa [show (l++ [z])[J]'(by simp [hJ])=z by simp [<-hJ],show (cs++ [d]).getD J czero=d by simp [<-hcJ]] at this
 have hc2:IsComp (only (Free w.heap.size (.slice (some ⟨g,0,none⟩) (J+1) c)) w4) w4.heap.size cm cc:=hic.sub (Ze fun k hk _=>⟨⟨hk.1,fun e=>by have:k=g:=(by simpa [Value.ownBlock] using e);have:=hk.2;omega⟩,rfl⟩)
 cases h:mergeV d cc with
 | none=>
   rw [h] at hno
   exact ⟨fun _=>⟨hb5.trans ((hno rfl).mono hb5.size),zcq hi (zm0 hz hic h)⟩,fun e=>by cases e⟩
 | some m=>
   rw [h] at ho
   obtain ⟨M,h1,h2,h3⟩:=zf1 hz hic hk hp hs h
   refine ⟨fun e=>(by cases e),fun _=>⟨l,cs,m,M,g,J,rfl,rfl,hJ,hcJ,RowC.last hJ hcJ hr4 ho (fun k hk hl=>(hblk k hk (Nat.lt_of_lt_of_le hl hb5.size)).trans (hb5.block k hl)) (Nat.le_trans hb5.size hsz) (h3 _ _ hz hc2),h2,zd4 hi h1,hwb.trans ((hb5.mono hwb.size).trans hbel), ?_⟩⟩
   have hl5:=hlow.trans (hb5.mono hlow.size)
   exact hl5.trans ⟨hbel.os,hbel.tape,hbel.output,hbel.size,fun k hk=>hblk k (by omega) (Nat.lt_of_lt_of_le hk hl5.size)⟩
set_option maxRecDepth 100000 in
theorem zjd (w:World) (op:List Cm) (oa:Option Addr) (on oc:Nat) (hop:IsComps w w.heap.size op oa on oc) (hn:on<=1000) (hs:sumS op<=1000000000000):
 uP 26 #[.slice oa on oc] w (AimPost w (trimP op)):=by
 delta uP
 have hlen:=hop.len
 have hb0:0<on->0<w.heap.size:=fun h=>by obtain ⟨b,o,f,h5,_⟩:=hop.at_;have:=(h5 h).2;omega
 obtain ⟨i0,hi0,hz0,hz1,hz2⟩:=info_parts Ko
 have HCL:=qh (Ks w op oa on oc hop (by omega))
 subst hlen
 have HS:=qh hs;have HB0:=qh hb0
 clear hop hs hb0
 go_enter Tryz.func26,Tryz.ntmps26
 generalize hQ0:bodyPost _ _ _=Q0
 have HQ:=qh hQ0
 clear hQ0
 go_wp2_with fail
 refine HCL.out.mono ?_
 rintro e w3 ⟨⟨ca,cn,ck,rfl,hcl⟩,hb3⟩
 have hmax:=hcl.max;have hcap:=hcl.cap
 obtain rfl:cn=op.length:=hcl.len
 have HC:=qh hcl;have HB3:=qh hb3
 have HLT:Hid (([] :List Cm).length=0/\LT w w3 w3 op 0 [] (.slice none 0 0) []):=qh ⟨rfl,Row.nil _ _ _ _ _,rfl,rfl,fun k hk=>(by cases hk),hb3,Below.refl _ _⟩
 clear hcl hb3 HCL
 go_wp2_with fail
 go_loopw [3,10] (fun s i wr=>∃(j:Nat) (L:List Cm) (N:Nat) (a:Option Addr) (c:Nat) (cs:List CC),s= .slice a N c/\i= .int .i64 j/\j<=op.length/\N<=1000/\Hid (L.length=N/\LT w w3 wr op j L (.slice a N c) cs)) (fun _ i _=>op.length - (intOf i).toNat)
 case atStart=>exact ⟨0, [],0,none,0, [],rfl,rfl,Nat.zero_le _,by omega,HLT⟩
 case round =>
  obtain ⟨j,L,N,a,c,cs,rfl,rfl,hj,hN,HL⟩:=hrel
  clear HLT
  by_cases hlt:j<op.length
  .obtain ⟨hLN,hlh⟩:=HL.out
   obtain ⟨b,o,f,h5,h6⟩:=HC.out.at_
   obtain ⟨rfl,hbB⟩:=h5 (by omega)
   obtain ⟨hat,hic⟩:=h6 j hlt
   obtain ⟨cc,hcc⟩:∃c,f j=c:=⟨_,rfl⟩
   rw [hcc] at hat hic
   obtain ⟨cm,hcm⟩:∃y,op[j] =y:=⟨_,rfl⟩
   rw [hcm] at hic
   have hcell:∀k u,(ccells cc)[k]? =some u->wr.cell? ⟨b,o+j*12+k,none⟩=some u:=fun k u h=>Zb hlh.low (Z1 (Qw hat k u h)).2 hbB
   have hicr:∀W,uB w3 W->IsComp (only (fun k=>w.heap.size<=k/\k<w3.heap.size) W) W.heap.size cm cc:=fun W hW=>Qg hic rfl hW.size fun k hk hl=>⟨⟨hk,hl⟩,hW.block k hl⟩
   have hfe:cm.k=cc.k/\cm.n=cc.n/\cm.i=cc.i/\cm.j=cc.j/\cm.s=cc.s:=by cases hic with|mk c p xv _ hp _=>exact ⟨rfl,rfl,rfl,rfl,rfl⟩
   have hnx:ontoP L cm=(op.take (j+1)).foldl ontoP [] :=by
    rw [List.take_add_one,List.getElem?_eq_getElem hlt,hcm,List.foldl_append, <-hlh.is];rfl
   have hmem:cm ∈ op:=by rw [<-hcm];exact List.getElem_mem hlt
   have hln:(ontoP L cm).length<=1000:=by
    rw [hnx]
    have:=zhr (op.take (j+1)) []
    rw [List.length_take] at this
    simp at this;omega
   have hsL:∀z ∈ L,z.s.size<=1000000000000:=fun z hz=>by
    have h1:=zct hz
    have h2:=zdu (op.take j) []
    rw [<-hlh.is] at h2
    have h3:sumS (op.take j)+sumS (op.drop j)=sumS op:=by rw [<-Qr,List.take_append_drop]
    have h4:sumS ([] :List Cm)=0:=rfl
    have:=HS.out;omega
   have hcs:cm.s.size<=1000000000000:=by have:=zct hmem;have:=HS.out;omega
   obtain ⟨w1,hw1⟩:∃w1,wr.alloc (.cells (uC cc) 54)=w1:=⟨_,rfl⟩
   have hb1:uB wr w1:=by rw [<-hw1];exact Yw wr _
   have hx1:BC w1 wr.heap.size (ccells cc):=by rw [<-hw1];exact BC.start wr (uC cc) 54
   have hb0:=HB0.out (by omega)
   have HX1:=qh hx1;have HB1:=qh hb1;have HBZ:=qh hb0
   obtain ⟨e0,e1,e2,e3,e4,e5,e6,e7,e8,e9,e10,e11⟩:=row12 hcell
   rw [Nat.add_zero] at e0
   have hj0:¬((j:Int)<0):=by omega
   have hjn:(j:Int)<(op.length:Int):=by omega
   have hbw:b<wr.heap.size:=Nat.lt_of_lt_of_le hbB hlh.low.size
   have HID:=qh (zau w1 cm cc ⟨hfe.1,hfe.2.1,hfe.2.2.1,hfe.2.2.2.1⟩)
   have HNX:=qh hnx;have HLL:=qh hln;have HSL:=qh hsL;have HCS:=qh hcs;have HIC:=qh hicr;have HFE:=qh hfe
   clear h5 h6 hat hic hcc hcm hnx hlh hLN hbB hmem hln hsL hcs hcell hicr hfe hb0
   go_upto_region 5 with fail
   clear hw1 e0 e1 e2 e3 e4 e5 e6 e7 e8 e9 e10 e11 hbw
   obtain ⟨c0,c1,c2,c3,c4,c5,c6,c7,c8,c9,c10,c11⟩:=row12 hx1.at_
   have zc:=hx1.lt
   clear hx1 hb1
   go_wp2_with fail
   refine HID.out.mono ?_
   rintro e w4 ⟨rfl,hb4⟩
   have hB4:uB wr w4:=HB1.out.trans (hb4.mono HB1.out.size)
   have hx4:=HX1.out.keep hb4 HX1.out.lt
   have HX4:=qh hx4;have HB4:=qh hB4
   clear c0 c1 c2 c3 c4 c5 c6 c7 c8 c9 c10 c11 zc hb4 hB4 HB1 HX1 HID
   cases hI:idleB cm with
   | true=>
     have hon:ontoP L cm=L:=by unfold ontoP;rw [if_pos hI]
     have HON:=qh hon
     clear hon hI hx4
     go_wp2_with fail
     go_roundw
     case rel=>exact ⟨j+1,L,N,a,c,cs,rfl,by go_num,by omega,hN,qh ⟨HL.out.1,HL.out.2.row.later (PC.closed _ _) (.of_below 0 HB4.out) HBZ.out,HL.out.2.cen,by rw [<-HNX.out,HON.out],HL.out.2.own,HL.out.2.below.trans (HB4.out.mono HL.out.2.below.size),HL.out.2.low.trans (HB4.out.mono HL.out.2.low.size)⟩⟩
     case measure=>simp [intOf];omega
   | false =>
     have HI:=qh hI
     clear hI
     obtain ⟨c0,c1,c2,c3,c4,c5,c6,c7,c8,c9,c10,c11⟩:=row12 hx4.at_
     have zc:=hx4.lt
     clear hx4
     go_upto_region 7 with fail
     go_cut [49] from 18 to 49 (fun r wx=>∃q:Bool,r= .bool q/\Hid (TQ w w3 w4 wx L a N c cs cm q))
     case first=>
      rcases List.eq_nil_or_concat L with hL|⟨l,z,hL⟩
      .subst hL
       obtain rfl:N=0:=HL.out.1.symm
       have hon:ontoP [] cm= [] ++ [cm] :=by unfold ontoP;rw [if_neg (by rw [HI.out];decide)];rfl
       have HON:=qh hon
       clear hon
       refine Zh (by kernel_rfl) (by kernel_rfl) ?_
       repeat (go_big_quiet_step ((fail)))
       refine wpQuiet_nil ?_
       intro _ hw'
       obtain ⟨pq,hw''⟩:=hw'
       subst hw''
       go_wp2_with fail
       go_meet
       exact ⟨false,rfl,qh ⟨fun _=>⟨Zd _ _,HON.out⟩,fun e=>by cases e⟩⟩
      .rw [List.concat_eq_append] at hL
       subst hL
       obtain ⟨J,hJ⟩:∃J,l.length=J:=⟨_,rfl⟩
       obtain rfl:N=J+1:=by have:=HL.out.1;rw [List.length_append,hJ] at this;exact this.symm
       have hcl:=HL.out.2.cen
       rcases List.eq_nil_or_concat cs with rfl|⟨cs',d,rfl⟩
       .simp at hcl
       rw [List.concat_eq_append] at*
       have hcJ:cs'.length=J:=by simpa [hJ] using hcl
       have hr4:RowC w4 w.heap.size (.slice a (J+1) c) (l++ [z]) (cs'++ [d]):=HL.out.2.row.later (PC.closed _ _) (.of_below 0 HB4.out) HBZ.out
       obtain ⟨g,rfl⟩:∃g,a=some ⟨g,0,none⟩:=by
        rcases hr4.own.2 with ⟨e,h0⟩|⟨g,_,_,e,_⟩
        .simp at h0
        .injection e with e1;exact ⟨g,e1⟩
       have hown:w4.ownsRow w.heap.size 54 12 (.slice (some ⟨g,0,none⟩) (J+1) c) (J+1) ((cs'++ [d]).flatMap ccells):=by
        have:=hr4.own
        rwa [List.length_append,hJ,List.length_singleton] at this
       obtain ⟨hgb,hgw⟩:=hr4.lt g rfl
       have hg3:=HL.out.2.own g rfl
       have hwb:=HL.out.2.below.trans (HB4.out.mono HL.out.2.below.size)
       have hlow:=HL.out.2.low.trans (HB4.out.mono HL.out.2.low.size)
       have hic4:=HIC.out w4 hlow
       have hz4:IsComp (only (Free w.heap.size (.slice (some ⟨g,0,none⟩) (J+1) c)) w4) w4.heap.size z d:=by
        have:=hr4.els J (by simp [hJ]) (by simp [hJ])
        rwa [show (l++ [z])[J]'(by simp [hJ])=z by simp [<-hJ],show (cs'++ [d]).getD J czero=d by simp [<-hcJ]] at this
       have hds:d.s.size<=1000000000000:=by
        have:=HSL.out z (by simp)
        cases hz4 with|mk d p xv _ _ _=>exact this
       have hcs:cc.s.size<=1000000000000:=by have:=HCS.out;rw [HFE.out.2.2.2.2] at this;exact this
       have hdd:(cs'++ [d])[J]'(by simp [hcJ])=d:=by simp [<-hcJ]
       have hrow:=Qv hown (i:=J) (by simp [hcJ])
       rw [hdd] at hrow
       have hnj:((J:Int)+1 - 1)=J:=by omega
       have hnn:¬((J:Int)<0):=by omega
       have hnl:(J:Int)<(J+1:Nat):=by omega
       have gf:∀q,w4.frozen? ⟨g,q,none⟩=false:=fun q=>hown.frozenAt q
       obtain ⟨R,hR⟩:∃R,eqB z.path cm.path=R:=⟨_,rfl⟩
       have HEQ:Hid (∀W,uB w4 W->uP 48 #[.slice d.pa d.pl d.pc, .slice cc.pa cc.pl cc.pc] W fun e w'=>e= .returned (.bool R)/\uB W w'):=qh fun W hW=>by
        rw [<-hR]
        have q1:=IsComp.sub (Zl _ _ _) hz4
        have q2:=IsComp.sub (Zl _ _ _) hic4
        cases q1 with
        |mk d p xv _ hp _=>
        cases q2 with
        |mk cc p2 xv2 _ hp2 _=>exact Kk p p2 W _ _ _ _ _ _ (hp.later_ hW) (hp2.later_ hW)
       have HTQ:Hid (∀w5 w6 e,d.k=cc.k->R=true->uB w4 w5->MgPost w5 w.heap.size g c J cs' d (mergeV d cc) e w6->TQ w w3 w4 w6 (l++ [z]) (some ⟨g,0,none⟩) (J+1) c (cs'++ [d]) cm (mergeV d cc).isSome):=qh fun w5 w6 e hk hr hb5 hm=>zkr hJ hcJ hr4 HI.out hk (hR.trans hr) hic4 hg3 (by omega) hb5 hm hwb hlow
       have HNO:Hid ((d.k≠cc.k∨R=false)->ontoP (l++ [z]) cm=l++ [z] ++ [cm]):=qh fun h=>zcq HI.out (by
        unfold joinC
        rw [if_pos]
        rcases h with h|h
        .left
         have e1:z.k=d.k:=by cases hz4 with|mk d p xv _ _ _=>rfl
         rw [e1,HFE.out.1];exact h
        .exact .inr (hR.trans h))
       have HMG:Hid (∀W,uB w4 W->uP 49 #[.pointer (some ⟨g,J*12,none⟩), .agg (uC cc)] W (MgPost W w.heap.size g c J cs' d (mergeV d cc))):=qh fun W hW=>zlr W w.heap.size g c J cs' d cc hcJ (Xu hown hW) (Nat.le_trans hwb.size hW.size) hgb (Nat.lt_of_lt_of_le hgw hW.size) hds hcs
       have HLAY:Hid (∀W,uB w4 W->(∀k u,(ccells d)[k]? =some u->W.cell? ⟨g,J*12+k,none⟩=some u)/\(∀k u,(ccells cc)[k]? =some u->W.cell? ⟨wr.heap.size,k,none⟩=some u)):=qh fun W hW=>⟨fun k u h=>Zb hW (hrow k u h) hgw,fun k u h=>(HX4.out.keep hW HX4.out.lt).at_ k u h⟩
       obtain ⟨d0,d1,d2,d3,d4,d5,d6,d7,d8,d9,d10,d11⟩:=row12 hrow
       rw [Nat.add_zero] at d0
       clear hR hcl hr4 hown hgb hg3 hwb hlow hic4 hz4 hds hcs hdd hrow hJ hcJ
       by_cases hk:d.k=cc.k
       .rw [hk] at d0
        have HK:=qh hk
        clear hk
        cases R with
        | false=>
          have x0:=Za d0;have x1:=Za d1;have y0:=Za c0;have y1:=Za c1
          refine Zh (by kernel_rfl) (by kernel_rfl) ?_
          repeat (go_big_quiet_step ((go_at_call 48;exact Zg (HEQ.out _ (Zd _ _)))))
          refine wpQuiet_nil ?_
          intro _ hw'
          obtain ⟨pq,hw''⟩:=hw'
          subst hw''
          go_wp2_with fail
          go_meet
          exact ⟨false,rfl,qh ⟨fun _=>⟨Zd _ _,HNO.out (.inr (by trivial))⟩,fun e=>by cases e⟩⟩
        | true=>
          have hwj:IntKind.i64.wrap (J:Int)=J:=by rw [IntKind.wrap_i64];omega
          have hnl2:(J:Int)<(J:Int)+1:=by omega
          have hwj:IntKind.i64.wrap (J:Int)=J:=by rw [IntKind.wrap_i64];omega
          have HFB:Hid (∀W,BC W wr.heap.size (ccells cc)->W.cell? ⟨wr.heap.size,0,none⟩=some (.int .u8 cc.k)/\W.cell? ⟨wr.heap.size,1,none⟩=some (.slice cc.pa cc.pl cc.pc)/\W.cell? ⟨wr.heap.size,2,none⟩=some (.string cc.key)/\W.cell? ⟨wr.heap.size,3,none⟩=some (.int .i64 cc.i)/\W.cell? ⟨wr.heap.size,4,none⟩=some (.int .i64 cc.j)/\W.cell? ⟨wr.heap.size,5,none⟩=some (.int .i64 cc.n)/\W.cell? ⟨wr.heap.size,6,none⟩=some (.int .u8 cc.v.k)/\W.cell? ⟨wr.heap.size,7,none⟩=some (.int .i64 cc.v.n)/\W.cell? ⟨wr.heap.size,8,none⟩=some (.string cc.v.s)/\W.cell? ⟨wr.heap.size,9,none⟩=some (.slice cc.v.la cc.v.ll cc.v.lc)/\W.cell? ⟨wr.heap.size,10,none⟩=some (.slice cc.v.oa cc.v.ol cc.v.oc)/\W.cell? ⟨wr.heap.size,11,none⟩=some (.string cc.s)):=qh fun W hW=>by
           obtain ⟨q0,q1,q2,q3,q4,q5,q6,q7,q8,q9,q10,q11⟩:=row12 hW.at_
           exact ⟨q0,q1,q2,q3,q4,q5,q6,q7,q8,q9,q10,q11⟩
          have bl4:Hid (BC w4.drew wr.heap.size (ccells cc)):=qh (HX4.out.keep (Zf w4) HX4.out.lt)
          have HGN:Hid (wr.heap.size≠g/\wr.heap.size<w4.heap.size):=qh ⟨fun e=>by have:=(HL.out.2.row.lt g rfl).2;omega,HX4.out.lt⟩
          refine wp_region_noPanic ?_
          refine wp_region_held_drew (S:=fun W=>W.cell? ⟨wr.heap.size,0,none⟩=some (.int .u8 cc.k)/\W.cell? ⟨wr.heap.size,1,none⟩=some (.slice cc.pa cc.pl cc.pc)/\W.cell? ⟨wr.heap.size,2,none⟩=some (.string cc.key)/\W.cell? ⟨wr.heap.size,3,none⟩=some (.int .i64 cc.i)/\W.cell? ⟨wr.heap.size,4,none⟩=some (.int .i64 cc.j)/\W.cell? ⟨wr.heap.size,5,none⟩=some (.int .i64 cc.n)/\W.cell? ⟨wr.heap.size,6,none⟩=some (.int .u8 cc.v.k)/\W.cell? ⟨wr.heap.size,7,none⟩=some (.int .i64 cc.v.n)/\W.cell? ⟨wr.heap.size,8,none⟩=some (.string cc.v.s)/\W.cell? ⟨wr.heap.size,9,none⟩=some (.slice cc.v.la cc.v.ll cc.v.lc)/\W.cell? ⟨wr.heap.size,10,none⟩=some (.slice cc.v.oa cc.v.ol cc.v.oc)/\W.cell? ⟨wr.heap.size,11,none⟩=some (.string cc.s)) (by kernel_rfl) (HFB.out _ bl4.out) (fun _=> ?_)
          refine Zn (i:=0) (d:=(some 18)) (v:= ?_) rfl rfl (by kernel_rfl) (by kernel_rfl) (by kernel_rfl) (fun _ _ _ h=>h) (Or.inl ⟨by rfl, ?_⟩) (by assumption) ?_
          rotate_left
          . (intro w' hSw;obtain ⟨s0,s1,s2,s3,s4,s5,s6,s7,s8,s9,s10,s11⟩:=hSw;go_simp;all_goals (with_reducible rfl))
          simp only [Act.put,List.setIfInBounds_toArray,List.set_cons_zero,List.set_cons_succ]
          refine Zn (i:=1) (d:=(some 19)) (v:= ?_) rfl rfl (by kernel_rfl) (by kernel_rfl) (by kernel_rfl) (fun _ _ _ h=>h) (Or.inl ⟨by rfl, ?_⟩) (by assumption) ?_
          rotate_left
          . (intro w' hSw;obtain ⟨s0,s1,s2,s3,s4,s5,s6,s7,s8,s9,s10,s11⟩:=hSw;go_simp;all_goals (with_reducible rfl))
          simp only [Act.put,List.setIfInBounds_toArray,List.set_cons_zero,List.set_cons_succ]
          refine Zn (i:=2) (d:=(some 20)) (v:= ?_) rfl rfl (by kernel_rfl) (by kernel_rfl) (by kernel_rfl) (fun _ _ _ h=>h) (Or.inl ⟨by rfl, ?_⟩) (by assumption) ?_
          rotate_left
          . (intro w' hSw;obtain ⟨s0,s1,s2,s3,s4,s5,s6,s7,s8,s9,s10,s11⟩:=hSw;go_simp;all_goals (with_reducible rfl))
          simp only [Act.put,List.setIfInBounds_toArray,List.set_cons_zero,List.set_cons_succ]
          refine Zn (i:=3) (d:=(some 21)) (v:= ?_) rfl rfl (by kernel_rfl) (by kernel_rfl) (by kernel_rfl) (fun _ _ _ h=>h) (Or.inl ⟨by rfl, ?_⟩) (by assumption) ?_
          rotate_left
          . (intro w' hSw;obtain ⟨s0,s1,s2,s3,s4,s5,s6,s7,s8,s9,s10,s11⟩:=hSw;go_simp;all_goals (with_reducible rfl))
          simp only [Act.put,List.setIfInBounds_toArray,List.set_cons_zero,List.set_cons_succ]
          refine Zn (i:=4) (d:=(some 22)) (v:= ?_) rfl rfl (by kernel_rfl) (by kernel_rfl) (by kernel_rfl) (fun _ _ _ h=>h) (Or.inl ⟨by rfl, ?_⟩) (by assumption) ?_
          rotate_left
          . (intro w' hSw;obtain ⟨s0,s1,s2,s3,s4,s5,s6,s7,s8,s9,s10,s11⟩:=hSw;go_simp;all_goals (with_reducible rfl))
          simp only [Act.put,List.setIfInBounds_toArray,List.set_cons_zero,List.set_cons_succ]
          refine Zn (i:=5) (d:=(some 23)) (v:= ?_) rfl rfl (by kernel_rfl) (by kernel_rfl) (by kernel_rfl) (fun _ _ _ h=>h) (Or.inl ⟨by rfl, ?_⟩) (by assumption) ?_
          rotate_left
          . (intro w' hSw;obtain ⟨s0,s1,s2,s3,s4,s5,s6,s7,s8,s9,s10,s11⟩:=hSw;go_simp;all_goals (with_reducible rfl))
          simp only [Act.put,List.setIfInBounds_toArray,List.set_cons_zero,List.set_cons_succ]
          refine Zn (i:=6) (d:=(some 24)) (v:= ?_) rfl rfl (by kernel_rfl) (by kernel_rfl) (by kernel_rfl) (fun _ _ _ h=>h) (Or.inl ⟨by rfl, ?_⟩) (by assumption) ?_
          rotate_left
          . (intro w' hSw;obtain ⟨s0,s1,s2,s3,s4,s5,s6,s7,s8,s9,s10,s11⟩:=hSw;go_simp;all_goals (with_reducible rfl))
          simp only [Act.put,List.setIfInBounds_toArray,List.set_cons_zero,List.set_cons_succ]
          refine Zn (i:=7) (d:=(some 25)) (v:= ?_) rfl rfl (by kernel_rfl) (by kernel_rfl) (by kernel_rfl) (fun _ _ _ h=>h) (Or.inl ⟨by rfl, ?_⟩) (by assumption) ?_
          rotate_left
          . (intro w' hSw;obtain ⟨s0,s1,s2,s3,s4,s5,s6,s7,s8,s9,s10,s11⟩:=hSw;go_simp;all_goals (with_reducible rfl))
          simp only [Act.put,List.setIfInBounds_toArray,List.set_cons_zero,List.set_cons_succ]
          refine Zn (i:=9) (d:=(some 27)) (v:= ?_) rfl rfl (by kernel_rfl) (by kernel_rfl) (by kernel_rfl) (fun _ _ _ h=>h) (Or.inl ⟨by rfl, ?_⟩) (by assumption) ?_
          rotate_left
          . (intro w' hSw;obtain ⟨s0,s1,s2,s3,s4,s5,s6,s7,s8,s9,s10,s11⟩:=hSw;go_simp;all_goals (with_reducible rfl))
          simp only [Act.put,List.setIfInBounds_toArray,List.set_cons_zero,List.set_cons_succ]
          refine Zn (i:=10) (d:=(some 28)) (v:= ?_) rfl rfl (by kernel_rfl) (by kernel_rfl) (by kernel_rfl) (fun _ _ _ h=>h) (Or.inl ⟨by rfl, ?_⟩) (by assumption) ?_
          rotate_left
          . (intro w' hSw;obtain ⟨s0,s1,s2,s3,s4,s5,s6,s7,s8,s9,s10,s11⟩:=hSw;go_simp;all_goals (with_reducible rfl))
          simp only [Act.put,List.setIfInBounds_toArray,List.set_cons_zero,List.set_cons_succ]
          refine wpAnyH_ready (rs:= [8]) (by kernel_rfl) (by simp) ?_
          refine AllReadyH.cons rfl (fun K hK=> ?_) AllReadyH.nil
          go_simp
          refine hK.out _ _ (HFB.out _ bl4.out) (fun _=> ?_)
          clear hK K
          try simp only [Act.put,List.setIfInBounds_toArray,List.set_cons_zero,List.set_cons_succ]
          refine Zn (i:=11) (d:=(some 29)) (v:= ?_) rfl rfl (by kernel_rfl) (by kernel_rfl) (by kernel_rfl) (fun _ _ _ h=>h) (Or.inl ⟨by rfl, ?_⟩) (by assumption) ?_
          rotate_left
          . (intro w' hSw;obtain ⟨s0,s1,s2,s3,s4,s5,s6,s7,s8,s9,s10,s11⟩:=hSw;go_simp;all_goals (with_reducible rfl))
          simp only [Act.put,List.setIfInBounds_toArray,List.set_cons_zero,List.set_cons_succ]
          refine Zn (i:=12) (d:=(some 30)) (v:= ?_) rfl rfl (by kernel_rfl) (by kernel_rfl) (by kernel_rfl) (fun _ _ _ h=>h) (Or.inl ⟨by rfl, ?_⟩) (by assumption) ?_
          rotate_left
          . (intro w' hSw;obtain ⟨s0,s1,s2,s3,s4,s5,s6,s7,s8,s9,s10,s11⟩:=hSw;go_simp;all_goals (with_reducible rfl))
          simp only [Act.put,List.setIfInBounds_toArray,List.set_cons_zero,List.set_cons_succ]
          refine Zn (i:=13) (d:=(some 31)) (v:= ?_) rfl rfl (by kernel_rfl) (by kernel_rfl) (by kernel_rfl) (fun _ _ _ h=>h) (Or.inl ⟨by rfl, ?_⟩) (by assumption) ?_
          rotate_left
          . (intro w' hSw;obtain ⟨s0,s1,s2,s3,s4,s5,s6,s7,s8,s9,s10,s11⟩:=hSw;go_simp;all_goals (with_reducible rfl))
          simp only [Act.put,List.setIfInBounds_toArray,List.set_cons_zero,List.set_cons_succ]
          refine Zn (i:=14) (d:=(some 32)) (v:= ?_) rfl rfl (by kernel_rfl) (by kernel_rfl) (by kernel_rfl) (fun _ _ _ h=>h) (Or.inl ⟨by rfl, ?_⟩) (by assumption) ?_
          rotate_left
          . (intro w' hSw;obtain ⟨s0,s1,s2,s3,s4,s5,s6,s7,s8,s9,s10,s11⟩:=hSw;go_simp;all_goals (with_reducible rfl))
          simp only [Act.put,List.setIfInBounds_toArray,List.set_cons_zero,List.set_cons_succ]
          refine Zn (i:=15) (d:=(some 33)) (v:= ?_) rfl rfl (by kernel_rfl) (by kernel_rfl) (by kernel_rfl) (fun _ _ _ h=>h) (Or.inl ⟨by rfl, ?_⟩) (by assumption) ?_
          rotate_left
          . (intro w' hSw;obtain ⟨s0,s1,s2,s3,s4,s5,s6,s7,s8,s9,s10,s11⟩:=hSw;go_simp;all_goals (with_reducible rfl))
          simp only [Act.put,List.setIfInBounds_toArray,List.set_cons_zero,List.set_cons_succ]
          refine Zn (i:=16) (d:=(some 34)) (v:= ?_) rfl rfl (by kernel_rfl) (by kernel_rfl) (by kernel_rfl) (fun _ _ _ h=>h) (Or.inl ⟨by rfl, ?_⟩) (by assumption) ?_
          rotate_left
          . (intro w' hSw;obtain ⟨s0,s1,s2,s3,s4,s5,s6,s7,s8,s9,s10,s11⟩:=hSw;go_simp;all_goals (with_reducible rfl))
          simp only [Act.put,List.setIfInBounds_toArray,List.set_cons_zero,List.set_cons_succ]
          refine Zn (i:=17) (d:=(some 35)) (v:= ?_) rfl rfl (by kernel_rfl) (by kernel_rfl) (by kernel_rfl) (fun _ _ _ h=>h) (Or.inl ⟨by rfl, ?_⟩) (by assumption) ?_
          rotate_left
          . (intro w' hSw;obtain ⟨s0,s1,s2,s3,s4,s5,s6,s7,s8,s9,s10,s11⟩:=hSw;go_simp;all_goals (with_reducible rfl))
          simp only [Act.put,List.setIfInBounds_toArray,List.set_cons_zero,List.set_cons_succ]
          refine Zn (i:=18) (d:=(some 36)) (v:= ?_) rfl rfl (by kernel_rfl) (by kernel_rfl) (by kernel_rfl) (fun _ _ _ h=>h) (Or.inl ⟨by rfl, ?_⟩) (by assumption) ?_
          rotate_left
          . (intro w' hSw;obtain ⟨s0,s1,s2,s3,s4,s5,s6,s7,s8,s9,s10,s11⟩:=hSw;go_simp;all_goals (with_reducible rfl))
          simp only [Act.put,List.setIfInBounds_toArray,List.set_cons_zero,List.set_cons_succ]
          refine Zn (i:=20) (d:=(some 38)) (v:= ?_) rfl rfl (by kernel_rfl) (by kernel_rfl) (by kernel_rfl) (fun _ _ _ h=>h) (Or.inl ⟨by rfl, ?_⟩) (by assumption) ?_
          rotate_left
          . (intro w' hSw;obtain ⟨s0,s1,s2,s3,s4,s5,s6,s7,s8,s9,s10,s11⟩:=hSw;go_simp;all_goals (with_reducible rfl))
          simp only [Act.put,List.setIfInBounds_toArray,List.set_cons_zero,List.set_cons_succ]
          refine Zn (i:=21) (d:=(some 39)) (v:= ?_) rfl rfl (by kernel_rfl) (by kernel_rfl) (by kernel_rfl) (fun _ _ _ h=>h) (Or.inl ⟨by rfl, ?_⟩) (by assumption) ?_
          rotate_left
          . (intro w' hSw;obtain ⟨s0,s1,s2,s3,s4,s5,s6,s7,s8,s9,s10,s11⟩:=hSw;go_simp;all_goals (with_reducible rfl))
          simp only [Act.put,List.setIfInBounds_toArray,List.set_cons_zero,List.set_cons_succ]
          refine wpAnyH_ready (rs:= [19]) (by kernel_rfl) (by simp) ?_
          refine AllReadyH.cons rfl (fun K hK=> ?_) AllReadyH.nil
          go_simp
          refine hK.out _ _ (HFB.out _ bl4.out) (fun _=> ?_)
          clear hK K
          try simp only [Act.put,List.setIfInBounds_toArray,List.set_cons_zero,List.set_cons_succ]
          refine wpAnyH_ready (rs:= [22]) (by kernel_rfl) (by simp) ?_
          refine AllReadyH.cons rfl (fun K hK=> ?_) AllReadyH.nil
          go_simp
          go_at_call 48
          (with_reducible refine (HEQ.out _ (Zf w4)).mono ?_)
          rintro e w5 ⟨rfl,hb5⟩
          have hb5':uB w4 w5:=((Zf w4).trans hb5)
          have bl5:=qh (HX4.out.keep hb5' HX4.out.lt)
          clear hb5
          refine hK.out _ _ (HFB.out _ bl5.out) (fun _=> ?_)
          clear hK K
          try simp only [Act.put,List.setIfInBounds_toArray,List.set_cons_zero,List.set_cons_succ]
          refine Zn (i:=23) (d:=(some 41)) (v:= ?_) rfl rfl (by kernel_rfl) (by kernel_rfl) (by kernel_rfl) (fun _ _ _ h=>h) (Or.inl ⟨by rfl, ?_⟩) (by assumption) ?_
          rotate_left
          . (intro w' hSw;obtain ⟨s0,s1,s2,s3,s4,s5,s6,s7,s8,s9,s10,s11⟩:=hSw;go_simp;all_goals (with_reducible rfl))
          simp only [Act.put,List.setIfInBounds_toArray,List.set_cons_zero,List.set_cons_succ]
          refine Zn (i:=24) (d:=(some 42)) (v:= ?_) rfl rfl (by kernel_rfl) (by kernel_rfl) (by kernel_rfl) (fun _ _ _ h=>h) (Or.inl ⟨by rfl, ?_⟩) (by assumption) ?_
          rotate_left
          . (intro w' hSw;obtain ⟨s0,s1,s2,s3,s4,s5,s6,s7,s8,s9,s10,s11⟩:=hSw;go_simp;all_goals (with_reducible rfl))
          simp only [Act.put,List.setIfInBounds_toArray,List.set_cons_zero,List.set_cons_succ]
          refine Zn (i:=25) (d:=(some 43)) (v:= ?_) rfl rfl (by kernel_rfl) (by kernel_rfl) (by kernel_rfl) (fun _ _ _ h=>h) (Or.inl ⟨by rfl, ?_⟩) (by assumption) ?_
          rotate_left
          . (intro w' hSw;obtain ⟨s0,s1,s2,s3,s4,s5,s6,s7,s8,s9,s10,s11⟩:=hSw;go_simp;all_goals (with_reducible rfl))
          simp only [Act.put,List.setIfInBounds_toArray,List.set_cons_zero,List.set_cons_succ]
          refine Zn (i:=26) (d:=(some 44)) (v:= ?_) rfl rfl (by kernel_rfl) (by kernel_rfl) (by kernel_rfl) (fun _ _ _ h=>h) (Or.inl ⟨by rfl, ?_⟩) (by assumption) ?_
          rotate_left
          . (intro w' hSw;obtain ⟨s0,s1,s2,s3,s4,s5,s6,s7,s8,s9,s10,s11⟩:=hSw;go_simp;all_goals (with_reducible rfl))
          simp only [Act.put,List.setIfInBounds_toArray,List.set_cons_zero,List.set_cons_succ]
          refine Zn (i:=27) (d:=(some 45)) (v:= ?_) rfl rfl (by kernel_rfl) (by kernel_rfl) (by kernel_rfl) (fun _ _ _ h=>h) (Or.inl ⟨by rfl, ?_⟩) (by assumption) ?_
          rotate_left
          . (intro w' hSw;obtain ⟨s0,s1,s2,s3,s4,s5,s6,s7,s8,s9,s10,s11⟩:=hSw;go_simp;all_goals (with_reducible rfl))
          simp only [Act.put,List.setIfInBounds_toArray,List.set_cons_zero,List.set_cons_succ]
          refine Zn (i:=28) (d:=(some 46)) (v:= ?_) rfl rfl (by kernel_rfl) (by kernel_rfl) (by kernel_rfl) (fun _ _ _ h=>h) (Or.inl ⟨by rfl, ?_⟩) (by assumption) ?_
          rotate_left
          . (intro w' hSw;obtain ⟨s0,s1,s2,s3,s4,s5,s6,s7,s8,s9,s10,s11⟩:=hSw;go_simp;all_goals (with_reducible rfl))
          simp only [Act.put,List.setIfInBounds_toArray,List.set_cons_zero,List.set_cons_succ]
          refine Zn (i:=29) (d:=(some 47)) (v:= ?_) rfl rfl (by kernel_rfl) (by kernel_rfl) (by kernel_rfl) (fun _ _ _ h=>h) (Or.inl ⟨by rfl, ?_⟩) (by assumption) ?_
          rotate_left
          . (intro w' hSw;obtain ⟨s0,s1,s2,s3,s4,s5,s6,s7,s8,s9,s10,s11⟩:=hSw;go_simp;all_goals (with_reducible rfl))
          simp only [Act.put,List.setIfInBounds_toArray,List.set_cons_zero,List.set_cons_succ]
          refine wpAnyH_ready (rs:= [30]) (by kernel_rfl) (by simp) ?_
          refine AllReadyH.cons rfl (fun K hK=> ?_) AllReadyH.nil
          go_simp
          go_at_call 49
          (with_reducible refine (HMG.out _ hb5').mono ?_)
          rintro e w6 hm
          have HT:=qh (HTQ.out _ _ _ HK.out (by trivial) hb5' hm)
          have bl6:Hid (BC w6 wr.heap.size (ccells cc)):=qh (zhm bl5.out (hm.2.2.1 _ HGN.out.1 bl5.out.lt))
          obtain ⟨rfl, -⟩:=hm
          refine hK.out _ _ (HFB.out _ bl6.out) (fun _=> ?_)
          clear hK K
          try simp only [Act.put,List.setIfInBounds_toArray,List.set_cons_zero,List.set_cons_succ]
          refine Zn (i:=31) (d:=(some 49)) (v:= ?_) rfl rfl (by kernel_rfl) (by kernel_rfl) (by kernel_rfl) (fun _ _ _ h=>h) (Or.inl ⟨by rfl, ?_⟩) (by assumption) ?_
          rotate_left
          . (intro w' hSw;obtain ⟨s0,s1,s2,s3,s4,s5,s6,s7,s8,s9,s10,s11⟩:=hSw;go_simp;all_goals (with_reducible rfl))
          simp only [Act.put,List.setIfInBounds_toArray,List.set_cons_zero,List.set_cons_succ]
          refine wpAnyH_done (by kernel_rfl) ?_ _
          refine NoPanic.normal ?_
          go_wp2_with fail
          go_meet
          exact ⟨_,rfl,HT⟩
       .have hk2:(d.k==cc.k)=false:=by simpa using hk
        have HK:=qh hk
        clear hk
        have x0:=Za d0;have y0:=Za c0
        refine Zh (by kernel_rfl) (by kernel_rfl) ?_
        repeat (go_big_quiet_step ((fail)))
        refine wpQuiet_nil ?_
        intro _ hw'
        obtain ⟨pq,hw''⟩:=hw'
        subst hw''
        go_wp2_with fail
        go_meet
        exact ⟨false,rfl,qh ⟨fun _=>⟨Zd _ _,HNO.out (.inl HK.out)⟩,fun e=>by cases e⟩⟩
     case rest=>
     obtain ⟨q,rfl,HQ9⟩:=hcut
     clear c0 c1 c2 c3 c4 c5 c6 c7 c8 c9 c10 c11 zc
     cases q with
     | true=>
       obtain ⟨l,cs',m,M,g,J,rfl,rfl,hlJ,hcJ,hrow,hM,hont,hwb,hlow⟩:=HQ9.out.yes rfl
       have hown:wc.ownsRow w.heap.size 54 12 (.slice (some ⟨g,0,none⟩) (J+1) c) (J+1) ((cs'++ [m]).flatMap ccells):=by
        have:=hrow.own
        rwa [List.length_append,hlJ,List.length_singleton] at this
       have hJc:J<=c:=by
        rcases hown.2 with ⟨e,h0⟩|⟨g2,cap,cur,e,_,_,h3,_⟩
        .omega
        .injection e with e1 e2 e3;omega
       have hcells:=Qv hown (i:=J) (by simp [hcJ])
       rw [show (cs'++ [m])[J]'(by simp [hcJ])=m by simp [<-hcJ]] at hcells
       obtain ⟨d0,d1,d2,d3,d4,d5,d6,d7,d8,d9,d10,d11⟩:=row12 hcells
       rw [Nat.add_zero] at d0
       have hnj:((J:Int)+1 - 1)=J:=by omega
       have hnn:¬((J:Int)<0):=by omega
       have hnl:(J:Int)<(J+1:Nat):=by omega
       have HID2:=qh (zau wc M m hM)
       have HRW:=qh hrow;have HON:=qh hont;have HLJ:=qh hlJ;have HCJ:=qh hcJ;have HWB:=qh hwb;have HLW:=qh hlow;have HGO:=qh (HL.out.2.own g rfl)
       clear hrow hont hlJ hcJ hwb hlow hM hown hcells
       go_wp2_with fail
       refine HID2.out.mono ?_
       rintro e w7 ⟨rfl,hb7⟩
       have HB7:=qh hb7
       clear hb7 HID2 d0 d1 d2 d3 d4 d5 d6 d7 d8 d9 d10 d11
       have HREST:Hid (RowC w7 w.heap.size (.slice (some ⟨g,0,none⟩) (J+1) c) (l++ [M]) (cs'++ [m])/\(∀k,(Value.slice (some ⟨g,0,none⟩) (J+1) c).ownBlock=some k->w3.heap.size<=k)/\uB w w7/\uB w3 w7):=qh ⟨HRW.out.later (PC.closed _ _) (.of_below 0 HB7.out) HBZ.out,fun k hk=>by have:g=k:=(by simpa [Value.ownBlock] using hk);have:=HGO.out;omega,HWB.out.trans (HB7.out.mono HWB.out.size),HLW.out.trans (HB7.out.mono HLW.out.size)⟩
       cases hIM:idleB M with
       | true=>
         have HL2:Hid (l.length=J/\LT w w3 w7 op (j+1) l (.slice (some ⟨g,0,none⟩) J c) cs'):=qh ⟨HLJ.out,RowC.pop HLJ.out HCJ.out HREST.out.1,HCJ.out.trans HLJ.out.symm,by rw [<-HNX.out,HON.out,if_pos hIM],HREST.out.2.1,HREST.out.2.2.1,HREST.out.2.2.2⟩
         clear hIM HREST HON HRW HNX
         go_wp2_with fail
         go_roundw
         case rel=>exact ⟨j+1,l,J,_,c,cs',rfl,by go_num,by omega,by omega,HL2⟩
         case measure=>simp [intOf];omega
       | false=>
         have HL2:Hid ((l++ [M]).length=J+1/\LT w w3 w7 op (j+1) (l++ [M]) (.slice (some ⟨g,0,none⟩) (J+1) c) (cs'++ [m])):=qh ⟨by rw [List.length_append,HLJ.out];rfl,HREST.out.1,by rw [List.length_append,List.length_append,HLJ.out,HCJ.out];rfl,by rw [<-HNX.out,HON.out,if_neg (by rw [hIM];decide)],HREST.out.2.1,HREST.out.2.2.1,HREST.out.2.2.2⟩
         clear hIM HREST HON HRW HNX
         go_wp2_with fail
         go_roundw
         case rel=>exact ⟨j+1,l++ [M],J+1,_,c,cs'++ [m],rfl,by go_num,by omega,by omega,HL2⟩
         case measure=>simp [intOf];omega
     | false=>
       obtain ⟨hbw,hont⟩:=HQ9.out.no rfl
       have hB9:=HB4.out.trans (hbw.mono HB4.out.size)
       have hr9:RowC wc w.heap.size (.slice a N c) L cs:=HL.out.2.row.later (PC.closed _ _) (.of_below 0 hB9) HBZ.out
       have hown:wc.ownsRow w.heap.size 54 12 (.slice a N c) N (cs.flatMap ccells):=by
        have:=hr9.own
        rwa [HL.out.1] at this
       have hwb:=HL.out.2.below.trans (hB9.mono HL.out.2.below.size)
       have hlow:=HL.out.2.low.trans (hB9.mono HL.out.2.low.size)
       have hx9:=HX4.out.keep hbw HX4.out.lt
       have hd9:IsComp (only (Free w.heap.size (.slice a N c)) wc) wc.heap.size cm cc:=(HIC.out wc hlow).sub (Ze fun k hk _=>⟨⟨hk.1,fun e=>by have:=HL.out.2.own k e.symm;have:=hk.2;omega⟩,rfl⟩)
       have hN2:N+1<=1000:=by have:=HLL.out;rw [hont,List.length_append,HL.out.1] at this;exact this
       have hfin:∀g2 cap2 w9,w9.ownsRow w.heap.size 54 12 (.slice (some ⟨g2,0,none⟩) (N+1) cap2) (N+1) (cs.flatMap ccells++ccells cc)->(wc.alloc (.cells (uC cc) 54)).grownBy w9 (Value.slice a N c).ownBlock->((Value.slice a N c).ownBlock=some g2∨g2=wc.heap.size+1)->(L++ [cm]).length=N+1/\LT w w3 w9 op (j+1) (L++ [cm]) (.slice (some ⟨g2,0,none⟩) (N+1) cap2) (cs++ [cc]):=fun g2 cap2 w9 k1 k2 k3=>by
        have hrow:=RowC.snocF (w9:=w9) (g:=g2) (cap:=cap2) hr9 HL.out.2.cen hd9 (by rw [HL.out.1];exact k1) k2 k3
        rw [HL.out.1] at hrow
        refine ⟨by rw [List.length_append,HL.out.1];rfl,hrow,by rw [List.length_append,List.length_append,HL.out.2.cen];rfl,by rw [<-HNX.out,hont],fun k hk=> ?_,hwb.trans (((Qa wc _).mono hwb.size).trans (Zj k2 (fun k hk=>(hr9.lt k hk).1) (by rw [World.size_alloc];have:=hwb.size;omega))),hlow.trans (((Qa wc _).mono hlow.size).trans (Zj k2 (fun k hk=>HL.out.2.own k hk) (by rw [World.size_alloc];have:=hlow.size;omega)))⟩
        have e:g2=k:=by simpa [Value.ownBlock] using hk
        rcases k3 with k3|k3
        .exact HL.out.2.own k (by rw [k3,e])
        .have:=hlow.size;omega
       have HFIN:=qh hfin
       obtain ⟨c0,c1,c2,c3,c4,c5,c6,c7,c8,c9,c10,c11⟩:=row12 hx9.at_
       have zc:=hx9.lt
       have hbz:=hwb.size
       clear hfin hr9 hwb hlow hd9 hont hB9 hbw hx9
       go_wp2_with (at_builtin;refine wpList_append_lies _ rfl (.tmp 60) (.tmp 62) 31 (by rfl) w.heap.size 54 i0 _ 12 168 Tryz.underlying31 hi0 hz0 hz1 hz2 rfl (by omega) (.slice a N c) N (cs.flatMap ccells) (by rfl) (hown.alloc _) ⟨wc.heap.size,0,none⟩ 1 1 (ccells cc) (by rfl) (by rfl) (Km wc cc _) (by simp [ccells,Value.oneCell']) (by omega) (by unfold maxLen;omega) (by omega) (by simp;omega) (wc.heap.size+1) (by simp) ?_;intro g2 cap2 w9 hown9 hgrow9 hat9 hlt9;have HF9:=qh (HFIN.out g2 cap2 w9 hown9 hgrow9 hat9);clear hown9 hgrow9 hat9)
       go_roundw
       case rel=>exact ⟨j+1,L++ [cm],N+1,_,cap2,cs++ [cc],rfl,by go_num,by omega,hN2,HF9⟩
       case measure=>simp [intOf];omega
  .obtain rfl:j=op.length:=by omega
   have hfin:AimPost w (trimP op) (.returned (.slice a N c)) wr:=⟨⟨a,N,c,rfl,by
    have h1:=HL.out.2.row
    have h2:=HL.out.2.is
    rw [List.take_of_length_le (Nat.le_refl _)] at h2
    have h3:L=trimP op:=h2
    rw [<-h3]
    exact h1.comps HL.out.2.cen (Nat.le_refl _) (by rw [HL.out.1];omega)⟩,HL.out.2.below⟩
   have HF:=qh hfin
   clear hfin HL
   go_wp2_with fail
   rw [<-HQ.out]
   exact ⟨rfl,_,by simp [results,Tryz.results26,go_sem],HF.out⟩
end Go.Proofs.YtbgheehjfnoiiaaGreatDoor
