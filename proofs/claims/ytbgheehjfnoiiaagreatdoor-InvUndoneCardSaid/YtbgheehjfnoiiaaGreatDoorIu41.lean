/- Walks. -/
import Derived.Test.YtbgheehjfnoiiaaGreatDoorIu38
import Derived.Test.YtbgheehjfnoiiaaGreatDoorIu40
namespace Go.Proofs.YtbgheehjfnoiiaaGreatDoor
open Go.RowKit
set_option maxRecDepth 100000
set_option maxHeartbeats 16000000
theorem CompAt.cells {w:World} {b o:Nat} {c:CC} (h:CompAt w b o c):∀k u,(ccells c)[k]? =some u->w.cell? ⟨b,o+k,none⟩=some u:=fun k u hk=>by
 have hm:k<12:=by have:=(List.getElem?_eq_some_iff.1 hk).1;exact this
 match k,hm with
 |0,_=>rw [<-hk];exact h.c0
 |1,_=>rw [<-hk];exact h.c1
 |2,_=>rw [<-hk];exact h.c2
 |3,_=>rw [<-hk];exact h.c3
 |4,_=>rw [<-hk];exact h.c4
 |5,_=>rw [<-hk];exact h.c5
 |6,_=>rw [<-hk];exact h.c6.c0
 |7,_=>rw [<-hk];exact h.c6.c1
 |8,_=>rw [<-hk];exact h.c6.c2
 |9,_=>rw [<-hk];exact h.c6.c3
 |10,_=>rw [<-hk];exact h.c6.c4
 |11,_=>rw [<-hk];exact h.c11
theorem zgf (v:V) (op:List Cm) (h:(turnsP v op).2≠0):(turnsP v op).1= [] :=by
 cases op with
 |nil=>exact absurd rfl h
 | cons c r=>
   rw [turnsP] at h ⊢;split
   .rename_i h1;rw [if_pos h1] at h;split
    .rename_i h2;rw [if_pos h2] at h;exact absurd rfl h
    .rfl
   .rfl
theorem zo4 (v:V) (op:List Cm):goOn [] (turnsP v op)=turnsP v op:=by
 unfold goOn;split
 .rename_i h;rw [List.nil_append];exact Prod.ext rfl h.symm
 .rename_i h;exact Prod.ext (zgf v op h).symm rfl
theorem zof {xs:List Cm} {x:V} {cm T1:Cm} {r:List Cm} (h:turnedP x cm=(T1,0)):goOn (xs++ [T1]) (turnsP (doP x cm).1 r)=goOn xs (turnsP x (cm::r)):=by
 rw [turnsP,h,if_pos rfl];unfold goOn;by_cases h2:(turnsP (doP x cm).1 r).2=0
 .rw [if_pos h2,if_pos h2,if_pos rfl,List.append_assoc];rfl
 .rw [if_neg h2,if_neg h2,if_neg h2]
def AllPost (k:IntKind) (w:World) (r:List Cm×Int) (e:Ending) (w':World):Prop:=
 (∃a n c,e= .returned (.tuple #[.slice a n c, .int k r.2])/\IsComps (only (fun b=>w.heap.size<=b) w') w'.heap.size r.1 a n c)/\Below w.heap.size w w'
theorem zi4 (w:World) (B:Nat):IsComps w B [] none 0 0:=⟨rfl,zza _,by decide,by decide,0,0,fun _=>czero,fun h=>absurd h (by decide),fun i hi=>absurd hi (by simp)⟩
theorem ze0 {w W:World} {xs:List Cm} {cs:List CC} {a:Option Addr} {m c:Nat} {r:List Cm×Int} {tmps:Array Value} {e:Int} (ht:tmps[4]? =some (.pointer (some ⟨w.heap.size+1,0,none⟩))) (hx:tmps[5]? =some (.int .u16 e))
 (ho:BC W (w.heap.size+1) [.slice a m c]) (hr:RowC W (w.heap.size+2) (.slice a m c) xs cs) (hl:cs.length=xs.length) (hm:xs.length=m) (hb:uB w W) (hfew:xs.length<=1000) (h:(xs.reverse,e)=r):
 bodyPostD Tryz.prog Tryz.f14 (AllPost .u16 w r) .ret { tmps:=tmps,defers:= [{ target:= .fn (.func 34) #[.pointer (some ⟨w.heap.size+1,0,none⟩)],args:= #[] }] } W:=by
 subst hm;refine leaves_cons (f:=34) (args:= #[.pointer (some ⟨w.heap.size+1,0,none⟩)]) (by simp) (by simp [go_sem]) ?_;refine (zor W (w.heap.size+1) (w.heap.size+2) a xs.length c cs hl ho hr.own).mono ?_;rintro e' u' w' ⟨rfl,rfl,ho',hg⟩;have hR:=RowC.rev hr hl ho' hg;have hb2:Below (w.heap.size+2) W w':=Zi hg (fun k hk=>(hr.lt k hk).1) (by have:=ho.lt;omega);have hob:=(ho.keep hb2 (by omega)).at_ 0 _ rfl;have hc:=hR.comps (lo:=w.heap.size) (by simp [hl]) (by omega) (by rw [List.length_reverse];omega);subst h;simp only [Leaves,settle];refine ⟨_, ?_,⟨a,_,c,rfl,hc⟩,hb.trans (hb2.mono (by omega))⟩;simp [results,Tryz.results14,go_sem,ht,hx,hob]
theorem zfe (w:World) (cv:VC) (v:V) (hv:IsVal w w.heap.size v cv) (op:List Cm) (oa:Option Addr) (on oc:Nat) (hop:IsComps w w.heap.size op oa on oc) (hok:on<=200->OpOk v op) (hT:Tabs w):
 uP 14 #[.agg (uV cv), .slice oa on oc] w (AllPost .u16 w (allP v op)):=by
 delta uV uP;have hmf:∀(fn:Fn) (first cap:Array Value) (w:World),(Instr.makeFunc fn first cap).run Tryz.prog w= .ok (.func fn first cap) w:=fun _ _ _ _=>rfl;obtain ⟨i0,hi0,hz0,hz1,hz2⟩:=info_parts Qo;have hlen:=hop.len;have hmax:=hop.max;have hcap:=hop.cap;obtain ⟨q1,q2,q3,q4⟩:=Qp w #[.int .u8 cv.k, .int .i64 cv.n, .string cv.s, .slice cv.la cv.ll cv.lc, .slice cv.oa cv.ol cv.oc] #[.slice none 0 0] 29 31;by_cases hn:200<on
 .have hr:allP v op=([],3):=by unfold allP;rw [if_pos (by omega)]
  have hfin:AllPost .u16 w (allP v op) (.returned (.tuple #[.slice none 0 0, .int .u16 3])) ((w.alloc (.cells (uV cv) 29)).alloc (.cells #[.slice none 0 0] 31)):=by rw [hr];exact ⟨⟨none,0,0,rfl,zi4 _ _⟩,q3⟩
  have c0:=q2.at_ 0 _ rfl;have HFIN:=qh hfin;have HC0:=qh c0;clear hfin hr c0 hok hop hv q1 q2 q3 q4 hlen
  go_enter_defers Tryz.func14,Tryz.ntmps14
  go_wp2_with fail;exact ⟨_,by simp [results,Tryz.results14,go_sem,HC0.out],HFIN.out⟩
 .have hrp:allP v op=((turnsP v op).1.reverse,(turnsP v op).2):=by unfold allP;rw [if_neg (by omega)]
  rw [hrp];have HLH:Hid (LH w ((w.alloc (.cells (uV cv) 29)).alloc (.cells #[.slice none 0 0] 31)) v op 0 v cv (.slice none 0 0) [] []):=qh ⟨zo4 v op,hok (by omega),rfl,rfl,q1,q2,(hv.sub fun b o u hb hc=>Z2 ⟨by omega,by omega,by simp [Value.ownBlock]⟩ ((World.cell?_of_block (q3.block b hb)).trans hc)).more q3.size,Row.nil _ _ _ _ _,q3⟩;have HOP:=qh hop;have HT:=qh hT;clear hop hok hv hrp q1 q2 q3 q4 hT
  go_enter_defers Tryz.func14,Tryz.ntmps14
  go_wp2_with fail
  go_loopw [16] (fun iv wr=>∃(j:Nat) (x:V) (cx:VC) (a:Option Addr) (c:Nat) (xs:List Cm) (cs:List CC),iv= .int .i64 (j:Int)/\j<=on/\Hid (LH w wr v op j x cx (.slice a xs.length c) xs cs)) (fun iv _=>(match iv with| .int _ i=>on - i.toNat|_=>0))
  case atStart=>exact ⟨0,v,cv,none,0, [], [],rfl,Nat.zero_le _,HLH⟩
  case round=>
   obtain ⟨j,x,cx,a,c,xs,cs,rfl,hj,HL⟩:=hrel;have hlh:=HL.out;obtain ⟨v0,v1,v2,v3,v4⟩:=row5 hlh.box.at_;have o0:=hlh.obox.at_ 0 _ rfl;have zv:=hlh.box.lt;have zo:=hlh.obox.lt;have gv:=hlh.box.fr;have go:=hlh.obox.fr;clear HLH;by_cases hlt:j<on
   .have hjl:j<op.length:=by omega
    obtain ⟨b,o,f,h5,h6⟩:=HOP.out.at_;obtain ⟨rfl,hbB⟩:=h5 (by omega);obtain ⟨hat,hic⟩:=h6 j hjl;have hat2:=hat.keep hlh.below hbB;have hbw:=zzj hbB hlh.below.size;obtain ⟨cc,hcc⟩:∃c,f j=c:=⟨_,rfl⟩;rw [hcc] at hat2 hic;obtain ⟨cm,hcm⟩:∃y,op[j] =y:=⟨_,rfl⟩;have hdr:op.drop j=cm::op.drop (j+1):=by rw [List.drop_eq_getElem_cons hjl,hcm]
    rw [hcm] at hic;have hok:=hlh.ok;rw [hdr] at hok;obtain ⟨hxw,hxs,hcw,hcs,hnx⟩:=hok;have HTD:Hid (∀W,uB wr W->uP 30 #[.agg (uV cx), .agg (uC cc)] W (TdPost .u16 W (turnedP x cm))):=qh fun W hW=>by
     have hwW:=hlh.below.trans (hW.mono hlh.below.size);have hvW:IsVal W W.heap.size x cx:=(hlh.val.sub (Zl _ _ _)).later_ hW
     cases hic with
     |mk _ p xv hcb hp hxv=>exact Kz W cx x hvW (by omega) p xv cc hcb (hp.later_ hwW) (hxv.later_ hwW) hcw hcs (HT.out.below hwW)
    have HDO:Hid (∀W,uB wr W->uP 36 #[.agg (uV cx), .agg (uC cc)] W (CDoPost W (doP x cm))):=qh fun W hW=>by
     have hwW:=hlh.below.trans (hW.mono hlh.below.size);have hvW:IsVal W W.heap.size x cx:=(hlh.val.sub (Zl _ _ _)).later_ hW
     cases hic with
     |mk _ p xv hcb hp hxv=>exact zok W cx.k cx.n cx.s cx.la cx.ll cx.lc cx.oa cx.ol cx.oc x hvW hxw p xv cc hcb (hp.later_ hwW) (hxv.later_ hwW) hcw (fun y hy=>by have:=Z0 _ hy;have:=y.str_weight.1;dsimp only at hcs;omega) hxs (HT.out.below hwW)
    obtain ⟨e0,e1,e2,e3,e4,e5,e6,e7,e8,e9,e10,e11⟩:=row12 hat2.cells;rw [Nat.add_zero] at e0;have hj0:¬((j:Int)<0):=by omega
    have hjn:(j:Int)<(on:Int):=by omega
    have HDR:=qh hdr;have HNX:=qh hnx;obtain ⟨w1,hw1⟩:∃w1,wr.alloc (.cells (uC cc) 54)=w1:=⟨_,rfl⟩;have hb1:uB wr w1:=by rw [<-hw1];exact Yd wr _
    have hx1:BC w1 wr.heap.size (ccells cc):=by rw [<-hw1];exact BC.start wr (uC cc) 54
    have hv1:=hlh.box.keep hb1 zv;have HX1:=qh hx1;have HB1:=qh hb1;have hzc:=hx1.lt;have hzv:=hv1.lt;clear h5 h6 hat hic hat2 hcc hcm hdr hxw hxs hcw hcs hnx hlh;go_upto_region 7 with fail
    clear hw1 v0 v1 v2 v3 v4 e0 e1 e2 e3 e4 e5 e6 e7 e8 e9 e10 e11 o0 zv zo gv go hbw;obtain ⟨v0,v1,v2,v3,v4⟩:=row5 hv1.at_;obtain ⟨c0,c1,c2,c3,c4,c5,c6,c7,c8,c9,c10,c11⟩:=row12 hx1.at_;clear hv1 hx1 hb1;go_wp2_with fail;refine (HTD.out _ HB1.out).mono ?_;rintro e w2 ⟨⟨d,rfl,hd⟩,hb2⟩;obtain ⟨T,hT⟩:∃T,turnedP x cm=T:=⟨_,rfl⟩;rw [hT] at hd;rw [hT];obtain ⟨w3,hw3⟩:∃w3,w2.alloc (.cells (uC d) 54)=w3:=⟨_,rfl⟩;have hb3:uB w2 w3:=by rw [<-hw3];exact Yd w2 _
    have hx3:BC w3 w2.heap.size (ccells d):=by rw [<-hw3];exact BC.start w2 (uC d) 54
    have hB3:uB wr w3:=HB1.out.trans ((hb2.trans (hb3.mono hb2.size)).mono HB1.out.size);have hc3:=(HX1.out.keep hb2 HX1.out.lt).keep hb3 (zzj HX1.out.lt hb2.size);have hD3:IsComp (only (fun k=>wr.heap.size<=k) w3) w3.heap.size T.1 d:=Y5 hd rfl hb3.size fun k hk hl=>⟨zzl HB1.out.size hk,hb3.block k hl⟩;have hlh:=HL.out;have hv3:=hlh.box.keep hB3 hlh.box.lt;have ho3:=hlh.obox.keep hB3 hlh.obox.lt;have HZ2:=qh (zzl HB1.out.size hb2.size);have HB3:=qh hB3;have HD3:=qh hD3;have HX3:=qh hx3;have HTT:=qh hT;have zd:=hx3.lt;have zc:=hc3.lt;have zv:=hv3.lt;have zo:=ho3.lt;have gv:=hv3.fr;have go:=ho3.fr;clear hd hb2 hb3 hB3 hD3 hlh hT v0 v1 v2 v3 v4 c0 c1 c2 c3 c4 c5 c6 c7 c8 c9 c10 c11 hzc hzv;obtain ⟨T1,er⟩:=T;dsimp only at HD3 ⊢;obtain ⟨v0,v1,v2,v3,v4⟩:=row5 hv3.at_;obtain ⟨c0,c1,c2,c3,c4,c5,c6,c7,c8,c9,c10,c11⟩:=row12 hc3.at_;obtain ⟨d0,d1,d2,d3,d4,d5,d6,d7,d8,d9,d10,d11⟩:=row12 hx3.at_;have o0:=ho3.at_ 0 _ rfl;have HO3:=qh ho3;clear hv3 hc3 hx3 ho3;by_cases he:er=0
    .subst he;have hd0:(doP x cm).2=0:=by rw [Jm];exact (Js HTT.out).1
     have hrd:goOn (xs++ [T1]) (turnsP (doP x cm).1 (op.drop (j+1)))=turnsP v op:=by rw [zof HTT.out, <-HDR.out];exact HL.out.rd
     have hok2:=HNX.out hd0;obtain ⟨D,hD⟩:∃D,doP x cm=D:=⟨_,rfl⟩;rw [hD] at hrd hok2 HDO;have HRD:=qh hrd;have HOK:=qh hok2;clear hd0 hrd hok2 hD HNX HTT HDR;go_wp2_with fail;refine (HDO.out _ HB3.out).mono ?_;rintro e w4 ⟨⟨y,rfl,hy⟩,hb4⟩;have hlh:=HL.out;have hz3:=HB3.out.size;have hz4:=hb4.size;have hzv:=hlh.box.lt;have hzo:=hlh.obox.lt;have hv4:=(hlh.box.keep HB3.out hlh.box.lt).keep hb4 (by omega);have st:=Zh w4 w.heap.size 0 y;have HM:Hid (LM w wr (setV w4 w.heap.size 0 y) D.1 T1 y d (.slice a xs.length c) xs cs/\BC (setV w4 w.heap.size 0 y) w2.heap.size (ccells d)/\wr.heap.size<=(setV w4 w.heap.size 0 y).heap.size):=qh ⟨hlh.mid HB3.out HD3.out hb4 hy,(HX3.out.keep hb4 HX3.out.lt).next st (by have:=HZ2.out;omega),by have:=st.size;omega⟩;clear v0 v1 v2 v3 v4 c0 c1 c2 c3 c4 c5 c6 c7 c8 c9 c10 c11 d0 d1 d2 d3 d4 d5 d6 d7 d8 d9 d10 d11 o0 zd zc zv zo gv go;obtain ⟨v0,v1,v2,v3,v4⟩:=row5 hv4.at_;have zv:=hv4.lt;have gv:=hv4.fr;clear hlh hv4 st hy hb4 hz3 hz4 hzv hzo HDO;go_upto_region 11 with fail
     obtain ⟨w5,hw5⟩:∃w5,setV w4 w.heap.size 0 y=w5:=⟨_,rfl⟩;rw [hw5] at HM;simp only [setV,Nat.zero_add] at hw5;rw [hw5];have hw6:=HM.out;clear HM hw5 v0 v1 v2 v3 v4 zv gv;obtain ⟨hm,hx5,hz5⟩:=hw6;have hown:=hm.row.own;have o5:=hm.obox.at_ 0 _ rfl;obtain ⟨d0,d1,d2,d3,d4,d5,d6,d7,d8,d9,d10,d11⟩:=row12 hx5.at_;have zd:=hx5.lt;have zo:=hm.obox.lt;have HM:=qh hm;have HZ5:=qh hz5;have HFX:=qh HL.out.few;clear hm hx5 hz5;go_wp2_with (at_builtin;refine wpList_append_lies _ rfl (.tmp 35) (.tmp 37) 31 (by rfl) (w.heap.size+2) 54 i0 _ 12 168 Tryz.underlying31 hi0 hz0 hz1 hz2 rfl (by omega) (.slice a xs.length c) xs.length (cs.flatMap ccells) (by rfl) (hown.alloc _) ⟨w5.heap.size,0,none⟩ 1 1 (ccells d) (by rfl) (by rfl) (Qt w5 d _) (by simp [ccells,Value.oneCell']) (by have:=HFX.out;omega) (by have:=HFX.out;unfold maxLen;omega) (by have:=HFX.out;omega) (by first|omega|(simp;omega)) (w5.heap.size+1) (by simp) ?_;intro g cap w9 hown9 hgrow9 hat9 hlt9;have hgb:Below (w.heap.size+2) (w5.alloc (.cells (uC d) 54)) w9:=Zi hgrow9 (fun k hk=>(HM.out.row.lt k hk).1) (by rw [zzk];omega);have ho9:=(HM.out.obox.keep (Yd w5 _) HM.out.obox.lt).keep hgb (by omega);have o9:=ho9.at_ 0 _ rfl;have g9:=ho9.fr;have z9:=ho9.lt;clear ho9 hgb)
     go_roundw
     case rel=>exact ⟨j+1,D.1,y,some ⟨g,0,none⟩,cap,xs++ [T1],cs++ [d],by go_num,by omega,qh (by rw [zze,List.length_singleton];exact HL.out.round HM.out HZ5.out HRD.out HOK.out hown9 hgrow9 hat9)⟩
     case measure=>simp;omega
    .have f0:(er==0)=false:=by simpa using he
     have hlh:=HL.out;have hts:turnsP v op=([],er):=by have:=hlh.rd;rw [HDR.out,turnsP,HTT.out,if_neg he] at this;rw [<-this];unfold goOn;rw [if_neg he]
     have hb4:uB w (w3.setCell ⟨w.heap.size+1,0,none⟩ (.slice none 0 0)):=(hlh.below.trans (HB3.out.mono hlh.below.size)).trans ((RStep.self:RStep w3 (w3.setCell ⟨w.heap.size+1,0,none⟩ (.slice none 0 0)) (w.heap.size+1)).lowC (by omega) (by have:=hlh.box.lt;have:=HB3.out.size;omega));have hq4:BC (w3.setCell ⟨w.heap.size+1,0,none⟩ (.slice none 0 0)) (w.heap.size+1) [.slice none 0 0] :=HO3.out.set (i:=0) (by simp);have HTS:=qh hts;have HB4:=qh hb4;have HQ4:=qh hq4;clear hts hb4 hq4 hlh v0 v1 v2 v3 v4 c0 c1 c2 c3 c4 c5 c6 c7 c8 c9 c10 c11 d0 d1 d2 d3 d4 d5 d6 d7 d8 d9 d10 d11;go_wp2_with fail;rw [HTS.out];exact ze0 (xs:= []) (cs:= []) rfl rfl HQ4.out (Row.nil _ _ _ _ _) rfl rfl HB4.out (by simp) rfl
   .have hjn:¬((j:Int)<(on:Int)):=by omega
    have hd0:op.drop j= [] :=List.drop_eq_nil_of_le (by omega);have hts:turnsP v op=(xs,0):=by have:=hlh.rd;rw [hd0,turnsP] at this;rw [<-this];unfold goOn;rw [if_pos rfl,List.append_nil]
    have HTS:=qh hts;have hfx:=hlh.few;subst hfx;have st:RStep wr (wr.setCell ⟨w.heap.size+1,0,none⟩ (.slice a xs.length c)) (w.heap.size+1):=RStep.self;have HO5:=qh (hlh.obox.set (i:=0) (x:= .slice a xs.length c) (by simp));have HR5:=qh (hlh.row.later (PC.closed _ _) st (by omega));have HB5:=qh (hlh.below.trans (st.lowC (by omega) (by have:=hlh.box.lt;omega)));clear hlh hd0 hts st;go_wp2_with fail;rw [HTS.out];exact ze0 (xs:=xs) (cs:=cs) rfl rfl HO5.out HR5.out HL.out.cen rfl HB5.out (by omega) rfl
theorem IsComp.says {w:World} {B:Nat} {x:Cm} {c:CC} (h:IsComp w B x c):x.k=c.k/\x.key=c.key/\IsVal w B x.v c.v:=by
 cases h with
 |mk c p v hb hp hv=>exact ⟨rfl,rfl,hv⟩
theorem zp6 (w:World) (hT:Tabs w) (b:Nat) (hb:BC w b (fcells (kA,⟨2,1, .empty,none,0,0,none,0,0⟩))):uP 30 #[.agg (uU 5 0 { data:= #[] } none 0 0 (some ⟨b,0,none⟩) 1 1), .agg #[.int .u8 2, .slice none 0 0, .string { data:= #[97] }, .int .i64 0, .int .i64 0, .int .i64 0, .int .u8 2, .int .i64 2, .string { data:= #[] }, .slice none 0 0, .slice none 0 0, .string { data:= #[] }]] w fun e w'=>(∃d:CC,e= .returned (.tuple #[.agg #[.int .u8 d.k, .slice d.pa d.pl d.pc, .string d.key, .int .i64 d.i, .int .i64 d.j, .int .i64 d.n, .int .u8 d.v.k, .int .i64 d.v.n, .string d.v.s, .slice d.v.la d.v.ll d.v.lc, .slice d.v.oa d.v.ol d.v.oc, .string d.s], .int .u16 0])/\d.k=2/\d.v.n=1)/\uB w w':=by delta uU uB uP;refine (Kz w ⟨5,0, .empty,none,0,0,some ⟨b,0,none⟩,1,1⟩ kvV (zdu w b hb) (by rw [zcd];omega) [] (kvI 2) ⟨2,none,0,0,kA,0,0,0,⟨2,2, .empty,none,0,0,none,0,0⟩, .empty⟩ ⟨by dsimp only;omega,by dsimp only;omega,by dsimp only;omega,by dsimp only;omega,by dsimp only;omega,by dsimp only;omega,by dsimp only;omega,by dsimp only;omega,(show kA.size<=140737488355328 by decide),Nat.zero_le _⟩ (IsSteps.nil _ _) (Qz _ _ 2 2 (by decide) (by decide)) (by simp [kvI,V.weight,weightL,weightO]) (Nat.zero_le _) hT).mono ?_;rintro e w' ⟨⟨d,rfl,hI⟩,hb'⟩;have hd:=kt1;unfold kd1 at hd;rw [hd] at hI ⊢;obtain ⟨h1,_,h3⟩:=hI.says;obtain ⟨_,e2,_⟩:=h3.parts;exact ⟨⟨d,rfl,h1.symm,e2.symm⟩,hb'⟩
theorem zkl (w:World) (hT:Tabs w):uP 30 #[.agg (uU 5 0 { data:= #[] } none 0 0 none 0 0), .agg #[.int .u8 2, .slice none 0 0, .string { data:= #[97] }, .int .i64 0, .int .i64 0, .int .i64 0, .int .u8 2, .int .i64 2, .string { data:= #[] }, .slice none 0 0, .slice none 0 0, .string { data:= #[] }]] w fun e w'=>(∃d:CC,e= .returned (.tuple #[.agg #[.int .u8 d.k, .slice d.pa d.pl d.pc, .string d.key, .int .i64 d.i, .int .i64 d.j, .int .i64 d.n, .int .u8 d.v.k, .int .i64 d.v.n, .string d.v.s, .slice d.v.la d.v.ll d.v.lc, .slice d.v.oa d.v.ol d.v.oc, .string d.s], .int .u16 0])/\d.k=3/\d.key=kA)/\uB w w':=by delta uU uB uP;refine (Kz w ⟨5,0, .empty,none,0,0,none,0,0⟩ kOb (Qz _ _ 5 0 (by decide) (by decide)) (by rw [zi7];omega) [] (kvI 2) ⟨2,none,0,0,kA,0,0,0,⟨2,2, .empty,none,0,0,none,0,0⟩, .empty⟩ ⟨by dsimp only;omega,by dsimp only;omega,by dsimp only;omega,by dsimp only;omega,by dsimp only;omega,by dsimp only;omega,by dsimp only;omega,by dsimp only;omega,(show kA.size<=140737488355328 by decide),Nat.zero_le _⟩ (IsSteps.nil _ _) (Qz _ _ 2 2 (by decide) (by decide)) (by simp [kvI,V.weight,weightL,weightO]) (Nat.zero_le _) hT).mono ?_;rintro e w' ⟨⟨d,rfl,hI⟩,hb'⟩;have hd:=kt2;unfold kd1 at hd;rw [hd] at hI ⊢;obtain ⟨h1,h2,_⟩:=hI.says;exact ⟨⟨d,rfl,h1.symm,h2.symm⟩,hb'⟩
theorem zid (w:World) (hT:Tabs w) (b q:Nat) (hb:BC w b (fcells (kA,⟨2,1, .empty,none,0,0,none,0,0⟩))) (hq:BC w q (ccells ⟨2,none,0,0,kA,0,0,0,⟨2,2, .empty,none,0,0,none,0,0⟩, .empty⟩)):uP 14 #[.agg (uU 5 0 { data:= #[] } none 0 0 (some ⟨b,0,none⟩) 1 1), .slice (some ⟨q,0,none⟩) 1 1] w fun e w'=>(∃a c,e= .returned (.tuple #[.slice a 1 c, .int .u16 0]))/\uB w w':=by
 delta uU uB uP;have hop:IsComps w w.heap.size [kd1] (some ⟨q,0,none⟩) 1 1:=⟨rfl,zza _,by decide,by decide,q,0,fun _=>⟨2,none,0,0,kA,0,0,0,⟨2,2, .empty,none,0,0,none,0,0⟩, .empty⟩,fun _=>⟨rfl,hq.lt⟩,fun i hi=>by
  have h0:i=0:=by simpa using hi
  subst h0;exact ⟨⟨hq.at_ 0 _ rfl,hq.at_ 1 _ rfl,hq.at_ 2 _ rfl,hq.at_ 3 _ rfl,hq.at_ 4 _ rfl,hq.at_ 5 _ rfl,⟨hq.at_ 6 _ rfl,hq.at_ 7 _ rfl,hq.at_ 8 _ rfl,hq.at_ 9 _ rfl,hq.at_ 10 _ rfl⟩,hq.at_ 11 _ rfl⟩, .mk ⟨2,none,0,0,kA,0,0,0,⟨2,2, .empty,none,0,0,none,0,0⟩, .empty⟩ [] (kvI 2) ⟨by dsimp only;omega,by dsimp only;omega,by dsimp only;omega,by dsimp only;omega,by dsimp only;omega,by dsimp only;omega,by dsimp only;omega,by dsimp only;omega,(show kA.size<=140737488355328 by decide),Nat.zero_le _⟩ (IsSteps.nil _ _) (Qz _ _ 2 2 (by decide) (by decide))⟩⟩
 refine (zfe w ⟨5,0, .empty,none,0,0,some ⟨b,0,none⟩,1,1⟩ kvV (zdu w b hb) [kd1] (some ⟨q,0,none⟩) 1 1 hop (fun _=>kok1) hT).mono ?_;rw [ka1];rintro e w' ⟨⟨a,n,c,rfl,hI⟩,hb'⟩;obtain rfl:n=1:=hI.len;exact ⟨⟨a,c,rfl⟩,hb'⟩
structure KN (w W:World):Prop where
 f:BC W w.heap.size (fcells (kA,⟨2,1, .empty,none,0,0,none,0,0⟩))
 v:BC W (w.heap.size+1) [.int .u8 5, .int .i64 0, .string { data:= #[] }, .slice none 0 0, .slice (some ⟨w.heap.size,0,none⟩) 1 1]
 c:BC W (w.heap.size+1+1) [.int .u8 2, .slice none 0 0, .string { data:= #[97] }, .int .i64 0, .int .i64 0, .int .i64 0, .int .u8 2, .int .i64 2, .string { data:= #[] }, .slice none 0 0, .slice none 0 0, .string { data:= #[] }]
 below:Below w.heap.size w W
theorem KN.keep {w W W':World} (h:KN w W) (hb:uB W W'):KN w W':=⟨h.f.keep hb h.f.lt,h.v.keep hb h.v.lt,h.c.keep hb h.c.lt,h.below.trans (hb.mono h.below.size)⟩
theorem KN.start (w:World) (t0 t1 t2:TypeId):KN w (((w.alloc (.cells #[.string { data:= #[97] }, .int .u8 2, .int .i64 1, .string { data:= #[] }, .slice none 0 0, .slice none 0 0] t0)).alloc (.cells #[.int .u8 5, .int .i64 0, .string { data:= #[] }, .slice none 0 0, .slice (some ⟨w.heap.size,0,none⟩) 1 1] t1)).alloc (.cells #[.int .u8 2, .slice none 0 0, .string { data:= #[97] }, .int .i64 0, .int .i64 0, .int .i64 0, .int .u8 2, .int .i64 2, .string { data:= #[] }, .slice none 0 0, .slice none 0 0, .string { data:= #[] }] t2)):=by obtain ⟨w1,h1⟩:∃w1,(w.alloc (.cells #[.string { data:= #[97] }, .int .u8 2, .int .i64 1, .string { data:= #[] }, .slice none 0 0, .slice none 0 0] t0)).alloc (.cells (uU 5 0 { data:= #[] } none 0 0 (some ⟨w.heap.size,0,none⟩) 1 1) t1)=w1:=⟨_,rfl⟩;obtain ⟨b1,b2,b3,b4⟩:=Qp w #[.string { data:= #[97] }, .int .u8 2, .int .i64 1, .string { data:= #[] }, .slice none 0 0, .slice none 0 0] #[.int .u8 5, .int .i64 0, .string { data:= #[] }, .slice none 0 0, .slice (some ⟨w.heap.size,0,none⟩) 1 1] t0 t1;rw [h1] at b1 b2 b3 b4 ⊢;have hb:=Yd w1 (.cells #[.int .u8 2, .slice none 0 0, .string { data:= #[97] }, .int .i64 0, .int .i64 0, .int .i64 0, .int .u8 2, .int .i64 2, .string { data:= #[] }, .slice none 0 0, .slice none 0 0, .string { data:= #[] }] t2);have hr:=BC.start w1 #[.int .u8 2, .slice none 0 0, .string { data:= #[97] }, .int .i64 0, .int .i64 0, .int .i64 0, .int .u8 2, .int .i64 2, .string { data:= #[] }, .slice none 0 0, .slice none 0 0, .string { data:= #[] }] t2;rw [b4] at hr;exact ⟨b1.keep hb b1.lt,b2.keep hb b2.lt,hr,b3.trans (hb.mono b3.size)⟩
theorem zno (w:World) (hT:Tabs w):uP 11 #[] w fun e w'=>e= .returned (.bool true)/\uB w w':=by
 delta uB uP;have HK:=qh (KN.start w 62 29 54);have HT:=qh hT;clear hT;go_enter Tryz.func11,Tryz.ntmps11
 go_upto_region 3 with fail
 obtain ⟨w1,hw1⟩:∃w1,((w.alloc (.cells #[.string { data:= #[97] }, .int .u8 2, .int .i64 1, .string { data:= #[] }, .slice none 0 0, .slice none 0 0] 62)).alloc (.cells (uU 5 0 { data:= #[] } none 0 0 (some ⟨w.heap.size,0,none⟩) 1 1) 29)).alloc (.cells #[.int .u8 2, .slice none 0 0, .string { data:= #[97] }, .int .i64 0, .int .i64 0, .int .i64 0, .int .u8 2, .int .i64 2, .string { data:= #[] }, .slice none 0 0, .slice none 0 0, .string { data:= #[] }] 54)=w1:=⟨_,rfl⟩;rw [hw1] at HK ⊢;have hk:=HK.out;obtain ⟨v0,v1,v2,v3,v4⟩:=row5 hk.v.at_;obtain ⟨c0,c1,c2,c3,c4,c5,c6,c7,c8,c9,c10,c11⟩:=row12 hk.c.at_;have zv:=hk.v.lt;have zc:=hk.c.lt;clear hw1 hk;go_wp2_with fail;refine (zp6 w1 (HT.out.below HK.out.below) _ HK.out.f).mono ?_;rintro e w2 ⟨⟨d,rfl,hd1,hd2⟩,hb2⟩;obtain ⟨w3,hw3⟩:∃w3,w2.alloc (.cells (uC d) 54)=w3:=⟨_,rfl⟩;have hb3:uB w2 w3:=by rw [<-hw3];exact Yd w2 _
 have hx3:BC w3 w2.heap.size (ccells d):=by rw [<-hw3];exact BC.start w2 (uC d) 54
 have hk3:=(HK.out.keep hb2).keep hb3;have HK3:=qh hk3;have HX3:=qh hx3;have HD:=qh (show d.k=2/\d.v.n=1 from ⟨hd1,hd2⟩);clear v0 v1 v2 v3 v4 c0 c1 c2 c3 c4 c5 c6 c7 c8 c9 c10 c11 zv zc;obtain ⟨c0,c1,c2,c3,c4,c5,c6,c7,c8,c9,c10,c11⟩:=row12 hk3.c.at_;have zc:=hk3.c.lt;clear hb2 hb3 hx3 hk3 hd1 hd2 HK;go_upto_region 4 with fail
 clear hw3;go_wp2_with fail;refine (zkl w3 (HT.out.below HK3.out.below)).mono ?_;rintro e w4 ⟨⟨g,rfl,hg1,hg2⟩,hb4⟩;obtain ⟨w5,hw5⟩:∃w5,w4.alloc (.cells (uC g) 54)=w5:=⟨_,rfl⟩;have hb5:uB w4 w5:=by rw [<-hw5];exact Yd w4 _
 have hx5:BC w5 w4.heap.size (ccells g):=by rw [<-hw5];exact BC.start w4 (uC g) 54
 have hk5:=(HK3.out.keep hb4).keep hb5;have hd5:=(HX3.out.keep hb4 HX3.out.lt).keep hb5 (zzj HX3.out.lt hb4.size);have HK5:=qh hk5;have HX5:=qh hx5;have HD5:=qh hd5;have HG:=qh (show g.k=3/\g.key=kA from ⟨hg1,hg2⟩);clear c0 c1 c2 c3 c4 c5 c6 c7 c8 c9 c10 c11 zc;obtain ⟨v0,v1,v2,v3,v4⟩:=row5 hk5.v.at_;obtain ⟨c0,c1,c2,c3,c4,c5,c6,c7,c8,c9,c10,c11⟩:=row12 hk5.c.at_;have zv:=hk5.v.lt;have zc:=hk5.c.lt;clear hb4 hb5 hx5 hk5 hd5 hg1 hg2 HK3 HX3;go_upto_region 5 with fail
 clear hw5;obtain ⟨w6,hw6⟩:∃w6,w5.alloc (.cells #[.int .u8 2, .slice none 0 0, .string { data:= #[97] }, .int .i64 0, .int .i64 0, .int .i64 0, .int .u8 2, .int .i64 2, .string { data:= #[] }, .slice none 0 0, .slice none 0 0, .string { data:= #[] }] 54)=w6:=⟨_,rfl⟩;have hb6:uB w5 w6:=by rw [<-hw6];exact Yd w5 _
 have hq6:BC w6 w5.heap.size (ccells ⟨2,none,0,0,kA,0,0,0,⟨2,2, .empty,none,0,0,none,0,0⟩, .empty⟩):=by rw [<-hw6];exact BC.start w5 #[.int .u8 2, .slice none 0 0, .string { data:= #[97] }, .int .i64 0, .int .i64 0, .int .i64 0, .int .u8 2, .int .i64 2, .string { data:= #[] }, .slice none 0 0, .slice none 0 0, .string { data:= #[] }] 54
 have hk6:=HK5.out.keep hb6;have HAL:=qh (zid w6 (HT.out.below hk6.below) _ _ hk6.f hq6);have HB6:=qh hb6;clear hb6 hq6 hk6;go_wp2_with fail;refine HAL.out.mono ?_;rintro e w7 ⟨⟨a,cap,rfl⟩,hb7⟩;have hb57:=HB6.out.trans (hb7.mono HB6.out.size);have hd7:=HD5.out.keep hb57 HD5.out.lt;have hg7:=HX5.out.keep hb57 HX5.out.lt;have HBL:=qh (HK5.out.below.trans (hb57.mono HK5.out.below.size));clear v0 v1 v2 v3 v4 c0 c1 c2 c3 c4 c5 c6 c7 c8 c9 c10 c11 zv zc;have d0:=hd7.at_ 0 _ rfl;have d7:=hd7.at_ 7 _ rfl;have g0:=hg7.at_ 0 _ rfl;have g2:=hg7.at_ 2 _ rfl;rw [HD.out.1] at d0;rw [HD.out.2] at d7;rw [HG.out.1] at g0;rw [HG.out.2,kA] at g2;have zd:=hd7.lt;have zg:=hg7.lt;clear hb57 hd7 hg7 hb7 hw6;go_wp2_with fail;go_returns;exact ⟨rfl,HBL.out⟩
end Go.Proofs.YtbgheehjfnoiiaaGreatDoor
