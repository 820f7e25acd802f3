/- Walks. -/
import Derived.Test.YtbgheehjfnoiiaaGreatDoorIu38
namespace Go.Proofs.YtbgheehjfnoiiaaGreatDoor
open Go.RowKit
set_option maxRecDepth 100000
set_option maxHeartbeats 16000000
theorem zj2 (w:World) (a:Option Addr) (m c:Nat) (cm:Cm) (cc:CC) (hk:cm.k=cc.k) (hn:cm.n=cc.n) (hi:cm.i=cc.i) (hj:cm.j=cc.j) (h:idleB cm=true):
 uP 72 #[.slice a m c, .agg (uC cc)] w fun e w'=>e= .returned (.slice a m c)/\uB w w':=by
 delta uC uB uP;obtain ⟨w1,hw1⟩:∃W,w.alloc (.cells (uC cc) 54)=W:=⟨_,rfl⟩;have hb1:uB w w1:=by rw [<-hw1];exact X0 w _
 have hx1:BC w1 w.heap.size (ccells cc):=by rw [<-hw1];exact BC.start w (uC cc) 54
 have HX:=qh hx1;have HB:=qh hb1;simp only [idleB,Bool.or_eq_true,Bool.and_eq_true,beq_iff_eq,hk,hn,hi,hj] at h;have c0:=hx1.at_ 0 _ rfl;have c3:=hx1.at_ 3 _ rfl;have c4:=hx1.at_ 4 _ rfl;have c5:=hx1.at_ 5 _ rfl;have zc:=hx1.lt;clear hx1 hb1 hk hn hi hj;go_enter Tryz.func72,Tryz.ntmps72
 go_upto_region 1 with fail
 clear hw1;rcases h with ⟨h1,h2⟩|⟨h1,h2⟩
 .rw [h1] at c0;rw [h2] at c5;clear h1 h2;go_wp2_with fail;go_returns;exact ⟨rfl,HB.out⟩
 .rw [h1] at c0;rw [h2] at c3;clear h1 h2;go_wp2_with fail;go_returns;exact ⟨rfl,HB.out⟩
structure ON (w W:World) (base:Nat) (u:Value) (l:List Cm) (cs:List CC) (cc:CC):Prop where
 row:RowC W base u l cs
 box:BC W w.heap.size (ccells cc)
 below:Below w.heap.size w W
theorem ON.later {w W W':World} {base:Nat} {u:Value} {l:List Cm} {cs:List CC} {cc:CC} (h:ON w W base u l cs cc) (hb0:0<base) (hb:uB W W'):ON w W' base u l cs cc:=
 ⟨h.row.later (PC.closed _ _) (.of_below 0 hb) hb0,h.box.keep hb h.box.lt,h.below.trans (hb.mono h.below.size)⟩
def OntoPost (w:World) (base:Nat) (l:List Cm) (e:Ending) (w':World):Prop:=(∃a c cs,e= .returned (.slice a l.length c)/\RowC w' base (.slice a l.length c) l cs/\cs.length=l.length)/\Below base w w'
theorem zjx {a b:ByteArray} (h:a.toList=b.toList):a=b:=Z8 (by rw [ByteArray.toList_eq,ByteArray.toList_eq] at h;exact h)
theorem zey {cs:List CC} {d d':CC} {J t:Nat} {v:Value} (hJ:cs.length=J) (h:(ccells d).set t v=ccells d'):((cs++ [d]).flatMap ccells).set (J*12+t) v=(cs++ [d']).flatMap ccells:=by
 have hl:(cs.flatMap ccells).length=J*12:=by rw [Zk ccells 12 (fun _=>rfl),hJ]
 rw [Yr,Yr,List.set_append_right _ _ (by omega),hl,Nat.add_sub_cancel_left,h]
theorem RowC.last {W W':World} {base g J c:Nat} {l:List Cm} {cs:List CC} {z m:Cm} {d d':CC} (hJ:l.length=J) (hc:cs.length=J) (h:RowC W base (.slice (some ⟨g,0,none⟩) (J+1) c) (l++ [z]) (cs++ [d])) (hown:W'.ownsRow base 54 12 (.slice (some ⟨g,0,none⟩) (J+1) c) (J+1) ((cs++ [d']).flatMap ccells)) (hblk:∀k,k≠g->k<W.heap.size->W'.heap[k]? =W.heap[k]?) (hsz:W.heap.size<=W'.heap.size)
 (hm:IsComp (only (Free base (.slice (some ⟨g,0,none⟩) (J+1) c)) W) W.heap.size m d'):RowC W' base (.slice (some ⟨g,0,none⟩) (J+1) c) (l++ [m]) (cs++ [d']):=by
 have hs:Shows (only (Free base (.slice (some ⟨g,0,none⟩) (J+1) c)) W) (only (Free base (.slice (some ⟨g,0,none⟩) (J+1) c)) W') W.heap.size:=Zc fun k hk hl=>⟨hk,hblk k (fun e=>hk.2 (by rw [e];rfl)) hl⟩;show Row _ _ _ _ _ _ _ _;rw [zze,hJ,List.length_singleton];refine ⟨hown,fun i hi=> ?_⟩;intro hi2;by_cases hij:i<J
 .have:=h.els i (by rw [zze,hJ,List.length_singleton];omega) (by rw [zze,hJ,List.length_singleton];omega);rw [List.getElem_append_left (by omega)] at this ⊢;have e1:(cs++ [d]).getD i czero=(cs++ [d']).getD i czero:=by simp [List.getD_eq_getElem?_getD,List.getElem?_append_left (show i<cs.length by omega)]
  rw [<-e1];exact (this.sub hs).more hsz
 .obtain rfl:i=J:=by omega
  have e1:(l++ [m])[i]'hi2=m:=by simp [<-hJ]
  have e2:(cs++ [d']).getD i czero=d':=by simp [<-hc]
  rw [e1,e2];exact (hm.sub hs).more hsz
theorem zpc {w:World} {B:Nat} {z:Cm} {d:CC} {V:Int} (h:IsComp w B z d) (h1: -9223372036854775808<=V) (h2:V<=9223372036854775807):IsComp w B { z with n:=V } { d with n:=V } :=by
 cases h with
 |mk d p xv hb hp hx=>exact .mk { d with n:=V } p xv ⟨hb.k0,hb.k1,hb.i0,hb.i1,hb.j0,hb.j1,h1,h2,hb.key1,hb.s1⟩ hp hx
theorem zlf {w:World} {B:Nat} {z:Cm} {d:CC} {s:ByteArray} (h:IsComp w B z d) (h1:s.size<=140737488355328):IsComp w B { z with s:=s } { d with s:=s } :=by
 cases h with
 |mk d p xv hb hp hx=>exact .mk { d with s:=s } p xv ⟨hb.k0,hb.k1,hb.i0,hb.i1,hb.j0,hb.j1,hb.n0,hb.n1,hb.key1,h1⟩ hp hx
theorem RowC.pop {W:World} {base g J c:Nat} {l:List Cm} {cs:List CC} {m:Cm} {d:CC} (hJ:l.length=J) (hc:cs.length=J) (h:RowC W base (.slice (some ⟨g,0,none⟩) (J+1) c) (l++ [m]) (cs++ [d])):RowC W base (.slice (some ⟨g,0,none⟩) J c) l cs:=by
 have hl:(cs.flatMap ccells).length=J*12:=by rw [Zk ccells 12 (fun _=>rfl),hc]
 show Row _ _ _ _ _ _ _ _;rw [hJ];refine ⟨⟨hl, .inr ?_⟩,fun i hi=> ?_⟩
 .rcases h.own.2 with ⟨e,_⟩|⟨g',cap,cur,e,h1,h2,h3,h4,h5,h6⟩
  .cases e
  .rw [zze,hJ,List.length_singleton] at e h3 h6;injection e with e1 e2 e3;injection e1 with e1;injection e1 with e1;subst e1 e3;refine ⟨g,c,cur,rfl,h1,h2,by omega,h4,h5, ?_⟩;have h7:=congrArg (List.take (J*12)) h6;rw [List.take_take,Nat.min_eq_left (by omega),Yr,List.take_left' hl] at h7;exact h7
 .intro hi2;have:=h.els i (by rw [zze,hJ,List.length_singleton];omega) (by rw [zze,hJ,List.length_singleton];omega);rw [List.getElem_append_left (by omega)] at this;have e1:(cs++ [d]).getD i czero=cs.getD i czero:=by simp [List.getD_eq_getElem?_getD,List.getElem?_append_left (show i<cs.length by omega)]
  rw [e1] at this;exact this
theorem zc6 {l:List Cm} {z c:Cm} (h:idleB c=false):ontoP (l++ [z]) c=match joinC z c with
 |none=>l++ [z] ++ [c]
 |some none=>l
 |some (some m)=>l++ [m] :=by
 unfold ontoP;rw [if_neg (by simp [h]),List.getLast?_append];simp only [List.getLast?_singleton,Option.some_or,List.dropLast_concat]
 cases joinC z c with
 |none=>rfl
 |some J=>cases J<;>rfl
theorem znz (w:World) (base:Nat) (hb0:0<base) (g c J:Nat) (l:List Cm) (z:Cm) (cs:List CC) (d:CC) (h:RowC w base (.slice (some ⟨g,0,none⟩) (J+1) c) (l++ [z]) (cs++ [d])) (hlJ:l.length=J) (hcJ:cs.length=J) (cm:Cm) (cc:CC) (lo:Nat) (hbase:base<=lo) (hlo:g<lo) (hlw:lo<=w.heap.size) (hc:IsComp (only (fun k=>lo<=k) w) w.heap.size cm cc) (hn:J<=1000) (hid:idleB cm=false) (hsz:z.s.size<=1000000000000) (hcs:cm.s.size<=1000000000000) (hT:Tabs w):
 uP 72 #[.slice (some ⟨g,0,none⟩) (J+1) c, .agg (uC cc)] w (OntoPost w base (ontoP (l++ [z]) cm)):=by
 delta uC uP;obtain ⟨LL,hLL⟩:∃LL,ontoP (l++ [z]) cm=LL:=⟨_,rfl⟩;rw [hLL];rw [zc6 hid] at hLL;have HLL:=qh hLL;clear hLL;obtain ⟨i0,hi0,hz0,hz1,hz2⟩:=info_parts Qo;obtain ⟨w1,hw1⟩:∃W,w.alloc (.cells (uC cc) 54)=W:=⟨_,rfl⟩;have hb1:uB w w1:=by rw [<-hw1];exact X0 w _
 have hx1:BC w1 w.heap.size (ccells cc):=by rw [<-hw1];exact BC.start w (uC cc) 54
 have HON:Hid (ON w w1 base (.slice (some ⟨g,0,none⟩) (J+1) c) (l++ [z]) (cs++ [d]) cc):=qh ⟨h.later (PC.closed _ _) (.of_below 0 hb1) hb0,hx1,hb1⟩;have hcf:cm.k=cc.k/\cm.n=cc.n/\cm.i=cc.i/\cm.j=cc.j/\cm.key=cc.key/\cm.s=cc.s/\IsSteps w w.heap.size cm.path cc.pa cc.pl cc.pc:=by cases hc with|mk cc p xv _ hp _=>exact ⟨rfl,rfl,rfl,rfl,rfl,rfl,hp.sub (Zl _ _ _)⟩
 have hzf:z.k=d.k/\z.n=d.n/\z.i=d.i/\z.key=d.key/\z.s=d.s/\IsSteps w w.heap.size z.path d.pa d.pl d.pc:=by have:=h.els J (by simp [hlJ]) (by simp [hlJ]);rw [show (l++ [z])[J]'(by simp [hlJ])=z by simp [<-hlJ],show (cs++ [d]).getD J czero=d by simp [<-hcJ]] at this;cases this with|mk d p xv _ hp _=>exact ⟨rfl,rfl,rfl,rfl,rfl,hp.sub (Zl _ _ _)⟩
 have hid2:(cc.k=1->cc.n≠0)/\(cc.k=7->cc.i≠cc.j):=by obtain ⟨e1,e2,e3,e4,_⟩:=hcf;simp only [idleB,e1,e2,e3,e4,Bool.or_eq_false_iff,Bool.and_eq_false_iff,beq_eq_false_iff_ne] at hid;obtain ⟨i1,i2⟩:=hid;exact ⟨fun e=>by rcases i1 with h|h;exact absurd e h;exact h,fun e=>by rcases i2 with h|h;exact absurd e h;exact h⟩
 have HPS:Hid (∀W,uB w1 W->uP 86 #[.slice d.pa d.pl d.pc, .slice cc.pa cc.pl cc.pc] W fun e w'=>e= .returned (.bool (eqB z.path cm.path))/\uB W w'):=qh fun W hW=>zob z.path cm.path W _ _ _ _ _ _ (hzf.2.2.2.2.2.later_ (hb1.trans (hW.mono hb1.size))) (hcf.2.2.2.2.2.2.later_ (hb1.trans (hW.mono hb1.size)));have HCM:=qh hc;have HCF:=qh hcf;have HZF:=qh hzf;have HSZ:=qh hsz;have HCS:=qh hcs;have HTT:=qh hT;have HID:=qh hid2;have HLJ:=qh hlJ;have HCJ:=qh hcJ;obtain ⟨c0,c1,c2,c3,c4,c5,c6,c7,c8,c9,c10,c11⟩:=row12 hx1.at_;have zc:=hx1.lt;have hn1:J+1<=c:=by
  rcases h.own.2 with ⟨e,_⟩|⟨_,_,_,e,_,_,h5,_⟩
  .cases e
  .injection e with _ _ e3;rw [e3];simpa [hlJ] using h5
 clear h hlJ hcJ hc hid hsz hcs hT hb1 hx1 hcf hzf hid2;go_enter Tryz.func72,Tryz.ntmps72
 go_upto_region 1 with fail
 clear hw1
 go_cut [25] from 6 to 25 (fun r wx=>r= .bool false/\wx=w1)
 case first=>
  by_cases k1:cc.k=1
  .have k2:(cc.n==0)=false:=by simpa using HID.out.1 k1
   rw [k1] at c0;go_wp2_with fail;go_meet;exact ⟨rfl,rfl⟩
  .have k2:(cc.k==1)=false:=by simpa using k1
   by_cases k7:cc.k=7
   .have k8:(cc.i==cc.j)=false:=by simpa using HID.out.2 k7
    rw [k7] at c0;clear k1 k2;go_wp2_with fail;go_meet;exact ⟨rfl,rfl⟩
   .have k8:(cc.k==7)=false:=by simpa using k7
    go_wp2_with fail;go_meet
    exact ⟨rfl,rfl⟩
 case rest=>
 obtain ⟨rfl,rfl⟩:=hcut;have hnj:((J:Int)+1 - 1)=J:=by omega
 have hnn:¬((J:Int)<0):=by omega
 have hnl:(J:Int)<(J+1:Nat):=by omega
 have hown0:wc.ownsRow base 54 12 (.slice (some ⟨g,0,none⟩) (J+1) c) (J+1) ((cs++ [d]).flatMap ccells):=by
  have:=HON.out.row.own
  rwa [zze,HLJ.out,List.length_singleton] at this
 obtain ⟨d0,d1,d2,d3,d4,d5,d6,d7,d8,d9,d10,d11⟩:=row12 (Xt hown0 (i:=J) (by simp [HCJ.out]));clear hown0;have hdd:(cs++ [d])[J]'(by simp [HCJ.out])=d:=by simp [<-HCJ.out]
 rw [hdd] at d0 d1 d2 d3 d4 d5 d6 d7 d8 d9 d10 d11;rw [Nat.add_zero] at d0;clear hdd;have hgw:=(HON.out.row.lt g rfl).2;go_upto_region 4 with fail
 go_cut [52] from 30 to 52 (fun r wx=>∃b4:Bool,r= .bool b4/\(b4=true->joinC z cm=none)/\(b4=false->d.k=cc.k/\eqB z.path cm.path=true)/\uB wc wx)
 case first=>
  by_cases hk:d.k=cc.k
  .have hk2:(d.k !=cc.k)=false:=by simp [hk]
   obtain ⟨R,hR⟩:∃R,eqB z.path cm.path=R:=⟨_,rfl⟩;rw [hR] at HPS;have HK:=qh hk;have HR:=qh hR;clear hk hR;have x0:=Za d0;have x1:=Za d1;have y0:=Za c0;have y1:=Za c1;refine Zj (by kernel_rfl) (by kernel_rfl) ?_;repeat (go_big_quiet_step ((go_at_call 86;exact Zg (HPS.out _ (Ze _ _)))))
   refine wpQuiet_nil ?_;intro _ hw';obtain ⟨pq,hw''⟩:=hw';subst hw'';go_wp2_with fail;go_meet;exact ⟨_,rfl,fun h=>by unfold joinC;rw [if_pos (.inr (by rw [HR.out];simpa using h))],fun h=>⟨HK.out,by rw [HR.out];simpa using h⟩,Ze _ _⟩
  .have hk2:(d.k !=cc.k)=true:=by simp [hk]
   have HK:=qh hk;clear hk;have x0:=Za d0;have y0:=Za c0;refine Zj (by kernel_rfl) (by kernel_rfl) ?_;repeat (go_big_quiet_step ((fail)))
   refine wpQuiet_nil ?_;intro _ hw';obtain ⟨pq,hw''⟩:=hw';subst hw'';go_wp2_with fail;go_meet;exact ⟨true,rfl,fun _=>by unfold joinC;rw [if_pos (.inl (by rw [HZF.out.1,HCF.out.1];exact HK.out))],fun h=>(by cases h),Ze _ _⟩
 case rest=>
 obtain ⟨b4,rfl,hb4t,hb4,hb5⟩:=hcut;have HO5:=qh (HON.out.later hb0 hb5);have HB4:=qh hb4;have HB4T:=qh hb4t;clear d0 d1 d2 d3 d4 d5 d6 d7 d8 d9 d10 d11 c0 c1 c2 c3 c4 c5 c6 c7 c8 c9 c10 c11 zc hgw;have hx5:=HO5.out.box;obtain ⟨c0,c1,c2,c3,c4,c5,c6,c7,c8,c9,c10,c11⟩:=row12 hx5.at_;have zc:=hx5.lt;clear hx5 hb4 hb4t hb5 HON HPS
 cases b4 with
 | true=>
   have HLN:=qh (show l++ [z] ++ [cm] =LL by rw [<-HLL.out,HB4T.out rfl]);have hl9:(l++ [z]).length=J+1:=by rw [zze,HLJ.out];rfl
   have hown:wc.ownsRow base 54 12 (.slice (some ⟨g,0,none⟩) (J+1) c) (J+1) ((cs++ [d]).flatMap ccells):=by
    have:=HO5.out.row.own
    rwa [hl9] at this
   have hbz:=HO5.out.below.size;have hfin:∀g2 cap2 w9,w9.ownsRow base 54 12 (.slice (some ⟨g2,0,none⟩) (J+1+1) cap2) (J+1+1) ((cs++ [d]).flatMap ccells++ccells cc)->(wc.alloc (.cells (uC cc) 54)).grownBy w9 (some g)->((some g:Option Nat)=some g2∨g2=wc.heap.size+1)->OntoPost w base LL (.returned (.slice (some ⟨g2,0,none⟩) (J+1+1) cap2)) w9:=fun g2 cap2 w9 k1 k2 k3=>by
    have hd5:IsComp (only (fun k=>lo<=k) wc) wc.heap.size cm cc:=Y5 HCM.out rfl hbz fun k hk hl=>⟨hk,HO5.out.below.block k hl⟩;have:=RowC.snoc (w9:=w9) (g:=g2) (cap:=cap2) HO5.out.row (by rw [hl9,zze,HCJ.out];rfl) hbase (fun k hk=>by have:g=k:=(by simpa [Value.ownBlock] using hk);omega) hd5 (by rw [hl9];exact k1) k2 k3;rw [hl9,HLN.out] at this;have hl0:LL.length=J+1+1:=by rw [<-HLN.out,zze,hl9];rfl
    unfold OntoPost;rw [hl0];exact ⟨⟨some ⟨g2,0,none⟩,cap2,_,rfl,this,by rw [zze,zze,HCJ.out];rfl⟩,(HO5.out.below.mono (by omega)).trans (((X0 wc _).mono (by omega)).trans (Zi k2 (fun k hk=>by have:g=k:=(by simpa using hk);have:=(HO5.out.row.lt g rfl).1;omega) (by rw [zzk];omega)))⟩
   have HFIN:=qh hfin;clear hfin hl9;go_wp2_with (at_builtin;refine wpList_append_lies _ rfl (.tmp 53) (.tmp 55) 31 (by rfl) base 54 i0 _ 12 168 Tryz.underlying31 hi0 hz0 hz1 hz2 rfl (by omega) (.slice (some ⟨g,0,none⟩) (J+1) c) (J+1) ((cs++ [d]).flatMap ccells) (by rfl) (hown.alloc _) ⟨wc.heap.size,0,none⟩ 1 1 (ccells cc) (by rfl) (by rfl) (Qt wc cc _) (by simp [ccells,Value.oneCell']) (by omega) (by unfold maxLen;omega) (by omega) (by simp;omega) (wc.heap.size+1) (by simp) ?_;intro g2 cap2 w9 hown9 hgrow9 hat9 hlt9;have HF9:=qh (HFIN.out g2 cap2 w9 hown9 hgrow9 hat9);clear hown9 hgrow9 hat9)
   go_returns;exact HF9.out
 |false=>
 obtain ⟨hk,hp⟩:=HB4.out rfl;obtain ⟨JJ,hjj⟩:∃JJ,joinC z cm=JJ:=⟨_,rfl⟩
 cases JJ with
 |some Q=>
 obtain ⟨e1,e2,e3,e4,e5,_⟩:=HZF.out;obtain ⟨f1,f2,f3,f4,f5,f6,_⟩:=HCF.out;have hway:(cc.k=1/\((wrap64 (d.n+cc.n)=0/\LL=l)∨(wrap64 (d.n+cc.n)≠0/\LL=l++ [{ z with n:=wrap64 (d.n+cc.n) }])))∨(cc.k=2/\d.key=cc.key/\LL=l++ [cm])∨(cc.k=8/\cc.i=wrap64 (d.i+textN d.s)/\LL=l++ [{ z with s:=d.s++cc.s }]):=by
  have hl:=HLL.out;rw [hjj] at hl;unfold joinC at hjj;rw [if_neg (by rw [e1,f1,hp];simp [hk])] at hjj;by_cases k1:cm.k=1
  .rw [if_pos k1] at hjj;refine .inl ⟨by rw [<-f1];exact k1, ?_⟩;rw [<-e2, <-f2];by_cases hs:wrap64 (z.n+cm.n)=0
   .rw [if_pos hs] at hjj;injection hjj with hjj;subst hjj;exact .inl ⟨hs,hl.symm⟩
   .rw [if_neg hs] at hjj;injection hjj with hjj;subst hjj;exact .inr ⟨hs,hl.symm⟩
  .rw [if_neg k1] at hjj;by_cases k2:cm.k=2/\z.key=cm.key
   .rw [if_pos k2] at hjj;injection hjj with hjj;subst hjj;exact .inr (.inl ⟨by rw [<-f1];exact k2.1,by rw [<-e4, <-f5];exact k2.2,hl.symm⟩)
   .rw [if_neg k2] at hjj;by_cases k8:cm.k=8/\cm.i=wrap64 (z.i+textN z.s)
    .rw [if_pos k8] at hjj;injection hjj with hjj;subst hjj;exact .inr (.inr ⟨by rw [<-f1];exact k8.1,by rw [<-f3, <-e3, <-e5];exact k8.2,by rw [<-e5, <-f6];exact hl.symm⟩)
    .rw [if_neg k8] at hjj;cases hjj
 have hsd:d.s.size<=1000000000000:=by rw [<-e5];exact HSZ.out
 have hcs8:cc.s.size<=1000000000000:=by rw [<-f6];exact HCS.out
 have hown0:wc.ownsRow base 54 12 (.slice (some ⟨g,0,none⟩) (J+1) c) (J+1) ((cs++ [d]).flatMap ccells):=by
  have:=HO5.out.row.own
  rwa [zze,HLJ.out,List.length_singleton] at this
 obtain ⟨d0,d1,d2,d3,d4,d5,d6,d7,d8,d9,d10,d11⟩:=row12 (Xt hown0 (i:=J) (by simp [HCJ.out]));have hdd:(cs++ [d])[J]'(by simp [HCJ.out])=d:=by simp [<-HCJ.out]
 rw [hdd] at d0 d1 d2 d3 d4 d5 d6 d7 d8 d9 d10 d11;rw [Nat.add_zero] at d0;clear hdd;have hzI:IsComp (only (Free base (.slice (some ⟨g,0,none⟩) (J+1) c)) wc) wc.heap.size z d:=by
  have:=HO5.out.row.els J (by simp [HLJ.out]) (by simp [HLJ.out])
  rwa [show (l++ [z])[J]'(by simp [HLJ.out])=z by simp [<-HLJ.out],show (cs++ [d]).getD J czero=d by simp [<-HCJ.out]] at this
 have hnn:¬((J:Int)<0):=by omega
 have hgw:=(HO5.out.row.lt g rfl).2;have hgb:=(HO5.out.row.lt g rfl).1;have gf:∀q,wc.frozen? ⟨g,q,none⟩=false:=fun q=>hown0.frozenAt q;have HZI:=qh hzI;have HOW:=qh hown0;have HWY:=qh hway;clear e1 e2 e3 e4 e5 f1 f2 f3 f4 f5 f6 hk hp HB4 HB4T hjj hzI hown0 hway;rcases HWY.out with ⟨q1,hA⟩|⟨q2,hkey,hB⟩|⟨q8,hi,hC⟩
 .have g1:(cc.k==1)=true:=by simp [q1]
  have HAA:=qh hA;clear q1 hA;go_upto_region 8 with fail
  go_cut [] from 61 to 70 (fun wx=>∃W0 V,uB wc W0/\W0.heap.size=wc.heap.size/\wx=W0.setCell ⟨g,J*12+5,none⟩ (.int .i64 V)/\V=wrap64 (d.n+cc.n))
  case first=>
   go_region
   all_goals (
    go_wp2_with fail;go_meet
    exact ⟨wc.drew,_,Zf wc,rfl,rfl,rfl⟩)
  case rest=>
  obtain ⟨W0,V,hb0',hz0',rfl,hV⟩:=hcut;have h0:=HO5.out.later hb0 hb0';have hOW:W0.ownsRow base 54 12 (.slice (some ⟨g,0,none⟩) (J+1) c) (J+1) ((cs++ [d]).flatMap ccells):=by
   have:=h0.row.own
   rwa [zze,HLJ.out,List.length_singleton] at this
  have hz0:IsComp (only (Free base (.slice (some ⟨g,0,none⟩) (J+1) c)) W0) W0.heap.size z d:=by
   have:=h0.row.els J (by simp [HLJ.out]) (by simp [HLJ.out])
   rwa [show (l++ [z])[J]'(by simp [HLJ.out])=z by simp [<-HLJ.out],show (cs++ [d]).getD J czero=d by simp [<-HCJ.out]] at this
  have hvr: -9223372036854775808<=V/\V<=9223372036854775807:=by rw [hV];unfold wrap64;omega
  have hst:=(hOW.stored (J*12+5) (.int .i64 V)).1;rw [zey (d':= { d with n:=V }) HCJ.out rfl] at hst;have st:RStep W0 (W0.setCell ⟨g,J*12+5,none⟩ (.int .i64 V)) g:=RStep.self;have hR:=RowC.last (m:= { z with n:=V }) HLJ.out HCJ.out h0.row hst (fun k hk hl=>st.block k hl hk) st.size (zpc hz0 hvr.1 hvr.2);have hbel:Below base w (W0.setCell ⟨g,J*12+5,none⟩ (.int .i64 V)):=(h0.below.mono (by omega)).set_ hgb;have hA':(V=0/\LL=l)∨(V≠0/\LL=l++ [{ z with n:=V }]):=by rw [hV];exact HAA.out
  obtain ⟨W1,hW1⟩:∃W1,W0.setCell ⟨g,J*12+5,none⟩ (.int .i64 V)=W1:=⟨_,rfl⟩;rw [hW1] at hst hR hbel ⊢;have y5:=Xt hst (i:=J) (by simp [HCJ.out]) 5 (.int .i64 V) (by rw [show (cs++ [{ d with n:=V }])[J]'(by simp [HCJ.out])= { d with n:=V } by simp [<-HCJ.out]];rfl);have hgw1:=(hR.lt g rfl).2;have HR:=qh hR;have HBL:=qh hbel;clear hW1 h0 hOW hz0 hst st hR hbel hvr hV hb0' hz0' d0 d1 d2 d3 d4 d5 d6 d7 d8 d9 d10 d11 c0 c1 c2 c3 c4 c5 c6 c7 c8 c9 c10 c11 zc hgw gf;rcases hA' with ⟨hv0,hL⟩|⟨hv0,hL⟩
  .subst hv0;have HF:Hid (OntoPost w base LL (.returned (.slice (some ⟨g,0,none⟩) J c)) W1):=qh (by
    rw [hL];unfold OntoPost;rw [HLJ.out];exact ⟨⟨some ⟨g,0,none⟩,c,cs,rfl,HR.out.pop HLJ.out HCJ.out,HCJ.out⟩,HBL.out⟩)
   clear hL;go_wp2_with fail;go_returns;exact HF.out
  .have hvb:(V==0)=false:=by simpa using hv0
   have HF:Hid (OntoPost w base LL (.returned (.slice (some ⟨g,0,none⟩) (J+1) c)) W1):=qh (by
    rw [hL];unfold OntoPost;have hlen:(l++ [{ z with n:=V }]).length=J+1:=by rw [zze,HLJ.out];rfl
    rw [hlen];exact ⟨⟨some ⟨g,0,none⟩,c,_,rfl,HR.out,by rw [zze,HCJ.out];rfl⟩,HBL.out⟩)
   clear hv0 hL;go_wp2_with fail;go_returns;exact HF.out
 .have g1:(cc.k==1)=false:=by simp [q2]
  have g2:(cc.k==2)=true:=by simp [q2]
  have hkk:(d.key.toList==cc.key.toList)=true:=by rw [hkey];simp
  have HB2:=qh hB;clear q2 hkey hB;have x2:=Za d2;have y2:=Za c2;go_upto_region 13 with fail
  go_cut [90] from 83 to 90 (fun r wx=>r= .bool true/\uB wc wx)
  case first=>
   refine Zj (by kernel_rfl) (by kernel_rfl) ?_;repeat (go_big_quiet_step ((fail)))
   refine wpQuiet_nil ?_;intro _ hw';obtain ⟨pq,hw''⟩:=hw';subst hw'';go_wp2_with fail;go_meet;exact ⟨rfl,Ze _ _⟩
  case rest=>
  obtain ⟨rfl,hb0'⟩:=hcut;obtain ⟨W0,hW0⟩:∃W0,wc=W0:=⟨_,rfl⟩;rw [hW0] at hb0' ⊢;clear hW0;have h0:=HO5.out.later hb0 hb0';have hOW:W0.ownsRow base 54 12 (.slice (some ⟨g,0,none⟩) (J+1) c) (J+1) ((cs++ [d]).flatMap ccells):=by
   have:=h0.row.own
   rwa [zze,HLJ.out,List.length_singleton] at this
  have hz0:IsComp (only (Free base (.slice (some ⟨g,0,none⟩) (J+1) c)) W0) W0.heap.size z d:=by
   have:=h0.row.els J (by simp [HLJ.out]) (by simp [HLJ.out])
   rwa [show (l++ [z])[J]'(by simp [HLJ.out])=z by simp [<-HLJ.out],show (cs++ [d]).getD J czero=d by simp [<-HCJ.out]] at this
  have hx0:=h0.box;have hst:=zai hOW (k:=J) (by simp [HCJ.out]) cc;rw [show (cs++ [d]).set J cc=cs++ [cc] by rw [<-HCJ.out];simp] at hst;have st:=zao W0 g (J*12) cc;have hm:IsComp (only (Free base (.slice (some ⟨g,0,none⟩) (J+1) c)) W0) W0.heap.size cm cc:=Y5 HCM.out rfl h0.below.size fun k hk hl=>have hk':lo<=k:=hk;⟨⟨by omega,fun e=>by have:k=g:=(by simpa [Value.ownBlock] using e);omega⟩,h0.below.block k hl⟩
  have hR:=RowC.last HLJ.out HCJ.out h0.row hst (fun k hk hl=>st.block k hl hk) st.size hm;have hbel:Below base w (setCo W0 g (J*12) cc):=(h0.below.mono (by omega)).trans (((((((((((((zzc base W0).set_ hgb).set_ hgb).set_ hgb).set_ hgb).set_ hgb).set_ hgb).set_ hgb).set_ hgb).set_ hgb).set_ hgb).set_ hgb).set_ hgb);have HF:Hid (OntoPost w base LL (.returned (.slice (some ⟨g,0,none⟩) (J+1) c)) (setCo W0 g (J*12) cc)):=qh (by
   rw [HB2.out];unfold OntoPost;rw [show (l++ [cm]).length=J+1 by rw [zze,HLJ.out];rfl];exact ⟨⟨some ⟨g,0,none⟩,c,_,rfl,hR,by rw [zze,HCJ.out];rfl⟩,hbel⟩)
  have gf0:∀q,W0.frozen? ⟨g,q,none⟩=false:=fun q=>hOW.frozenAt q;have hgw0:=(h0.row.lt g rfl).2;obtain ⟨d0',d1',d2',d3',d4',d5',d6',d7',d8',d9',d10',d11'⟩:=row12 (Xt hOW (i:=J) (by simp [HCJ.out]));have hdd:(cs++ [d])[J]'(by simp [HCJ.out])=d:=by simp [<-HCJ.out]
  rw [hdd] at d0' d1' d2' d3' d4' d5' d6' d7' d8' d9' d10' d11';rw [Nat.add_zero] at d0';unfold setCo at HF;clear d0 d1 d2 d3 d4 d5 d6 d7 d8 d9 d10 d11 c0 c1 c2 c3 c4 c5 c6 c7 c8 c9 c10 c11 zc hgw gf hdd h0 hOW hz0 hst st hm hR hbel hb0' x2 y2;obtain ⟨c0,c1,c2,c3,c4,c5,c6,c7,c8,c9,c10,c11⟩:=row12 hx0.at_;have zc:=hx0.lt;clear hx0;go_wp2_with fail;go_returns;exact HF.out
 .have g1:(cc.k==1)=false:=by simp [q8]
  have g2:(cc.k==2)=false:=by simp [q8]
  have g8:(cc.k==8)=true:=by simp [q8]
  have hbd:=HO5.out.below;have HLE:Hid (∀W,uB wc W->uP 119 #[.string d.s] W fun e w'=>e= .returned (.int .i64 (textN d.s:Int))/\uB W w'):=qh fun W hW=>zah W d.s hsd (HTT.out.below (hbd.trans (hW.mono hbd.size)));obtain ⟨N,hN⟩:∃N,textN d.s=N:=⟨_,rfl⟩;rw [hN] at HLE hi;have hi1:(cc.i==wrap64 (d.i+(N:Int)))=true:=beq_iff_eq.2 hi;have hi2:(cc.i==IntKind.i64.wrap (d.i+(N:Int)))=true:=by rw [IntKind.wrap_i64];unfold wrap64 at hi1;exact hi1
  have HC2:=qh hC;have x3:=Za d3;have x11:=Za d11;have y3:=Za c3;clear q8 hbd hN hi hC;go_upto_region 17 with fail
  go_cut [112] from 98 to 112 (fun r wx=>r= .bool true/\uB wc wx)
  case first=>
   refine Zj (by kernel_rfl) (by kernel_rfl) ?_;repeat (go_big_quiet_step ((go_at_call 119;exact Zg (HLE.out _ (Ze _ _)))))
   refine wpQuiet_nil ?_;intro _ hw';obtain ⟨pq,hw''⟩:=hw';subst hw'';go_wp2_with fail;go_meet;exact ⟨rfl,Ze _ _⟩
  case rest=>
  obtain ⟨rfl,hb0'⟩:=hcut;obtain ⟨W0,hW0⟩:∃W0,wc=W0:=⟨_,rfl⟩;rw [hW0] at hb0' ⊢;clear hW0;have h0:=HO5.out.later hb0 hb0';have hOW:W0.ownsRow base 54 12 (.slice (some ⟨g,0,none⟩) (J+1) c) (J+1) ((cs++ [d]).flatMap ccells):=by
   have:=h0.row.own
   rwa [zze,HLJ.out,List.length_singleton] at this
  have hz0:IsComp (only (Free base (.slice (some ⟨g,0,none⟩) (J+1) c)) W0) W0.heap.size z d:=by
   have:=h0.row.els J (by simp [HLJ.out]) (by simp [HLJ.out])
   rwa [show (l++ [z])[J]'(by simp [HLJ.out])=z by simp [<-HLJ.out],show (cs++ [d]).getD J czero=d by simp [<-HCJ.out]] at this
  have hx0:=h0.box;have hss:(d.s++cc.s).size<=140737488355328:=by have h1:=hcs8;have h2:(d.s++cc.s).size=d.s.size+cc.s.size:=ByteArray.size_append;omega
  have gf0:∀q,W0.frozen? ⟨g,q,none⟩=false:=fun q=>hOW.frozenAt q;have hgw0:=(h0.row.lt g rfl).2;obtain ⟨d0',d1',d2',d3',d4',d5',d6',d7',d8',d9',d10',d11'⟩:=row12 (Xt hOW (i:=J) (by simp [HCJ.out]));have hdd:(cs++ [d])[J]'(by simp [HCJ.out])=d:=by simp [<-HCJ.out]
  rw [hdd] at d0' d1' d2' d3' d4' d5' d6' d7' d8' d9' d10' d11';rw [Nat.add_zero] at d0';have H0:=qh h0;clear d0 d1 d2 d3 d4 d5 d6 d7 d8 d9 d10 d11 c0 c1 c2 c3 c4 c5 c6 c7 c8 c9 c10 c11 zc hgw gf hdd h0 hOW hz0 hb0' x3 x11 y3 hi1 hi2;obtain ⟨c0,c1,c2,c3,c4,c5,c6,c7,c8,c9,c10,c11⟩:=row12 hx0.at_;have zc:=hx0.lt;clear hx0;go_upto_region 18 with fail
  go_cut [] from 113 to 124 (fun wx=>∃W2,uB W0 W2/\wx=W2.setCell ⟨g,J*12+11,none⟩ (.string (d.s++cc.s)))
  case first=>
   go_region
   all_goals (
    go_wp2_with fail;go_meet
    exact ⟨W0.drew,Zf W0,rfl⟩)
  case rest=>
  obtain ⟨W2,hb2',rfl⟩:=hcut;have h2:=H0.out.later hb0 hb2';have hOW:W2.ownsRow base 54 12 (.slice (some ⟨g,0,none⟩) (J+1) c) (J+1) ((cs++ [d]).flatMap ccells):=by
   have:=h2.row.own
   rwa [zze,HLJ.out,List.length_singleton] at this
  have hz0:IsComp (only (Free base (.slice (some ⟨g,0,none⟩) (J+1) c)) W2) W2.heap.size z d:=by
   have:=h2.row.els J (by simp [HLJ.out]) (by simp [HLJ.out])
   rwa [show (l++ [z])[J]'(by simp [HLJ.out])=z by simp [<-HLJ.out],show (cs++ [d]).getD J czero=d by simp [<-HCJ.out]] at this
  have hst:=(hOW.stored (J*12+11) (.string (d.s++cc.s))).1;rw [zey (d':= { d with s:=d.s++cc.s }) HCJ.out rfl] at hst;have st:RStep W2 (W2.setCell ⟨g,J*12+11,none⟩ (.string (d.s++cc.s))) g:=RStep.self;have hR:=RowC.last (m:= { z with s:=d.s++cc.s }) HLJ.out HCJ.out h2.row hst (fun k hk hl=>st.block k hl hk) st.size (zlf hz0 hss);have hbel:Below base w (W2.setCell ⟨g,J*12+11,none⟩ (.string (d.s++cc.s))):=(h2.below.mono (by omega)).set_ hgb;have HF:Hid (OntoPost w base LL (.returned (.slice (some ⟨g,0,none⟩) (J+1) c)) (W2.setCell ⟨g,J*12+11,none⟩ (.string (d.s++cc.s)))):=qh (by
   rw [HC2.out];unfold OntoPost;have hlen:(l++ [{ z with s:=d.s++cc.s }]).length=J+1:=by rw [zze,HLJ.out];rfl
   rw [hlen];exact ⟨⟨some ⟨g,0,none⟩,c,_,rfl,hR,by rw [zze,HCJ.out];rfl⟩,hbel⟩)
  clear h2 hOW hz0 hst st hR hbel hb2' d0' d1' d2' d3' d4' d5' d6' d7' d8' d9' d10' d11' c0 c1 c2 c3 c4 c5 c6 c7 c8 c9 c10 c11 zc gf0;go_wp2_with fail;go_returns;exact HF.out
 |none=>
 have HLN:=qh (show l++ [z] ++ [cm] =LL by rw [<-HLL.out,hjj]);have hj:=hjj;obtain ⟨e1,e2,e3,e4,e5,_⟩:=HZF.out;obtain ⟨f1,f2,f3,f4,f5,f6,_⟩:=HCF.out;unfold joinC at hj;rw [if_neg (by rw [e1,f1,hp];simp [hk]),e2,e3,e4,e5,f1,f2,f3,f5] at hj;have k1:cc.k≠1:=fun e=>by rw [if_pos e] at hj;split at hj<;>cases hj
 rw [if_neg k1] at hj;have k2:cc.k=2->d.key≠cc.key:=fun e h=>by rw [if_pos ⟨e,h⟩] at hj;cases hj
 rw [if_neg (fun h=>k2 h.1 h.2)] at hj;have k8:cc.k=8->cc.i≠wrap64 (d.i+textN d.s):=fun e h=>by rw [if_pos ⟨e,h⟩] at hj;cases hj
 have hsd:d.s.size<=1000000000000:=by rw [<-e5];exact HSZ.out
 have g1:(cc.k==1)=false:=by simpa using k1
 have hown0:wc.ownsRow base 54 12 (.slice (some ⟨g,0,none⟩) (J+1) c) (J+1) ((cs++ [d]).flatMap ccells):=by
  have:=HO5.out.row.own
  rwa [zze,HLJ.out,List.length_singleton] at this
 obtain ⟨d0,d1,d2,d3,d4,d5,d6,d7,d8,d9,d10,d11⟩:=row12 (Xt hown0 (i:=J) (by simp [HCJ.out]));have hdd:(cs++ [d])[J]'(by simp [HCJ.out])=d:=by simp [<-HCJ.out]
 rw [hdd] at d0 d1 d2 d3 d4 d5 d6 d7 d8 d9 d10 d11;rw [Nat.add_zero] at d0;clear hdd hown0;have hnn:¬((J:Int)<0):=by omega
 have hgw:=(HO5.out.row.lt g rfl).2;have H2:=qh k2;have H8:=qh k8;clear e1 e2 e3 e4 e5 f1 f2 f3 f4 f5 f6 hj hjj k1 k2 k8 hk hp HB4 HB4T;go_upto_block 0 with fail
 go_cut [] from 60 to 125 (fun wx=>uB wc wx)
 case first=>
  by_cases q2:cc.k=2
  .have hkk:(d.key.toList==cc.key.toList)=false:=beq_eq_false_iff_ne.2 fun e=>H2.out q2 (zjx e);have x2:=Za d2;have y2:=Za c2;have g2:(cc.k==2)=true:=by simp [q2]
   have g8:(cc.k==8)=false:=by simp [q2]
   clear q2;go_upto_region 13 with fail
   refine Zj (by kernel_rfl) (by kernel_rfl) ?_;repeat (go_big_quiet_step ((fail)))
   refine wpQuiet_nil ?_;intro _ hw';obtain ⟨pq,hw''⟩:=hw';subst hw'';go_wp2_with fail;go_meet;exact Ze _ _
  .have g2:(cc.k==2)=false:=by simpa using q2
   by_cases q8:cc.k=8
   .have g8:(cc.k==8)=true:=by simp [q8]
    have hbd:=HO5.out.below;have HLE:Hid (∀W,uB wc W->uP 119 #[.string d.s] W fun e w'=>e= .returned (.int .i64 (textN d.s:Int))/\uB W w'):=qh fun W hW=>zah W d.s hsd (HTT.out.below (hbd.trans (hW.mono hbd.size)));obtain ⟨N,hN⟩:∃N,textN d.s=N:=⟨_,rfl⟩;have hne:=H8.out q8;rw [hN] at HLE hne;have hi1:(cc.i==wrap64 (d.i+(N:Int)))=false:=beq_eq_false_iff_ne.2 hne;have hi2:(cc.i==IntKind.i64.wrap (d.i+(N:Int)))=false:=by rw [IntKind.wrap_i64];unfold wrap64 at hi1;exact hi1
    have x3:=Za d3;have x11:=Za d11;have y3:=Za c3;clear q8 hbd hN hne;go_upto_region 17 with fail
    refine Zj (by kernel_rfl) (by kernel_rfl) ?_;repeat (go_big_quiet_step ((go_at_call 119;exact Zg (HLE.out _ (Ze _ _)))))
    refine wpQuiet_nil ?_;intro _ hw';obtain ⟨pq,hw''⟩:=hw';subst hw'';go_wp2_with fail;go_meet;exact Ze _ _
   .have g8:(cc.k==8)=false:=by simpa using q8
    go_wp2_with fail;go_meet
    exact zzc _ _
 case rest=>
 have hb7:=hcut;have HO7:=qh (HO5.out.later hb0 hb7);clear d0 d1 d2 d3 d4 d5 d6 d7 d8 d9 d10 d11 c0 c1 c2 c3 c4 c5 c6 c7 c8 c9 c10 c11 zc hgw;have hx7:=HO7.out.box;obtain ⟨c0,c1,c2,c3,c4,c5,c6,c7,c8,c9,c10,c11⟩:=row12 hx7.at_;have zc:=hx7.lt;clear hx7 hb7 hcut HO5;have hl9:(l++ [z]).length=J+1:=by rw [zze,HLJ.out];rfl
 have hown:wc.ownsRow base 54 12 (.slice (some ⟨g,0,none⟩) (J+1) c) (J+1) ((cs++ [d]).flatMap ccells):=by
  have:=HO7.out.row.own
  rwa [hl9] at this
 have hbz:=HO7.out.below.size;have hfin:∀g2 cap2 w9,w9.ownsRow base 54 12 (.slice (some ⟨g2,0,none⟩) (J+1+1) cap2) (J+1+1) ((cs++ [d]).flatMap ccells++ccells cc)->(wc.alloc (.cells (uC cc) 54)).grownBy w9 (some g)->((some g:Option Nat)=some g2∨g2=wc.heap.size+1)->OntoPost w base LL (.returned (.slice (some ⟨g2,0,none⟩) (J+1+1) cap2)) w9:=fun g2 cap2 w9 k1 k2 k3=>by
  have hd5:IsComp (only (fun k=>lo<=k) wc) wc.heap.size cm cc:=Y5 HCM.out rfl hbz fun k hk hl=>⟨hk,HO7.out.below.block k hl⟩;have:=RowC.snoc (w9:=w9) (g:=g2) (cap:=cap2) HO7.out.row (by rw [hl9,zze,HCJ.out];rfl) hbase (fun k hk=>by have:g=k:=(by simpa [Value.ownBlock] using hk);omega) hd5 (by rw [hl9];exact k1) k2 k3;rw [hl9,HLN.out] at this;have hl0:LL.length=J+1+1:=by rw [<-HLN.out,zze,hl9];rfl
  unfold OntoPost;rw [hl0];exact ⟨⟨some ⟨g2,0,none⟩,cap2,_,rfl,this,by rw [zze,zze,HCJ.out];rfl⟩,(HO7.out.below.mono (by omega)).trans (((X0 wc _).mono (by omega)).trans (Zi k2 (fun k hk=>by have:g=k:=(by simpa using hk);have:=(HO7.out.row.lt g rfl).1;omega) (by rw [zzk];omega)))⟩
 have HFIN:=qh hfin;clear hfin hl9;go_wp2_with (at_builtin;refine wpList_append_lies _ rfl (.tmp 126) (.tmp 128) 31 (by rfl) base 54 i0 _ 12 168 Tryz.underlying31 hi0 hz0 hz1 hz2 rfl (by omega) (.slice (some ⟨g,0,none⟩) (J+1) c) (J+1) ((cs++ [d]).flatMap ccells) (by rfl) (hown.alloc _) ⟨wc.heap.size,0,none⟩ 1 1 (ccells cc) (by rfl) (by rfl) (Qt wc cc _) (by simp [ccells,Value.oneCell']) (by omega) (by unfold maxLen;omega) (by omega) (by simp;omega) (wc.heap.size+1) (by simp) ?_;intro g2 cap2 w9 hown9 hgrow9 hat9 hlt9;have HF9:=qh (HFIN.out g2 cap2 w9 hown9 hgrow9 hat9);clear hown9 hgrow9 hat9)
 go_returns;exact HF9.out
def sumS (l:List Cm):Nat:=(l.map fun c=>c.s.size).sum
theorem Z5 (a b:List Cm):sumS (a++b)=sumS a+sumS b:=by simp [sumS]
theorem Y8 (c:Cm):sumS [c] =c.s.size:=by simp [sumS]
theorem zmp (b:List Cm):∀(a:List Cm) (v:V),OpOk v (a++b)->OpOk v a/\((doAllP v a).2=0->OpOk (doAllP v a).1 b):=by
 intro a
 induction a with
 |nil=>intro v h;exact ⟨trivial,fun _=>h⟩
 | cons c r ih=>
   intro v h;obtain ⟨h1,h2,h3,h4,h5⟩:=h;refine ⟨⟨h1,h2,h3,h4,fun h0=>(ih _ (h5 h0)).1⟩,fun h0=> ?_⟩;by_cases hc:(doP v c).2=0
   .rw [doAllP,if_pos hc] at h0 ⊢;exact (ih _ (h5 hc)).2 h0
   .rw [doAllP,if_neg hc] at h0;exact absurd h0 hc
theorem zep {a b:List Cm} {v y:V} (h:doAllP v (a++b)=(y,0)):∃x,doAllP v a=(x,0)/\doAllP x b=(y,0):=by
 rw [K1] at h;by_cases h0:(doAllP v a).2=0
 .rw [if_pos h0] at h;exact ⟨_,Prod.ext rfl h0,h⟩
 .rw [if_neg h0] at h;exact absurd (congrArg Prod.snd h) h0
theorem zi9 {a b:List Cm} {v x y:V} (h:doAllP v a=(x,0)) (g:doAllP x b=(y,0)):doAllP v (a++b)=(y,0):=by rw [K1,h,if_pos rfl];exact g
theorem Qq {x y:V} {c:Cm} :doAllP x [c] =(y,0)↔doP x c=(y,0):=by
 constructor
 .intro h;rw [doAllP] at h;by_cases h0:(doP x c).2=0
  .rw [if_pos h0,doAllP] at h;injection h with h _;exact Prod.ext h h0
  .rw [if_neg h0] at h;exact absurd (congrArg Prod.snd h) h0
 .intro h;rw [doAllP,h,if_pos rfl,doAllP]
theorem zcf:∀(l:List Cm) {v y:V},v.sound=true->v.Nums->(∀c ∈ l,c.Nums)->doAllP v l=(y,0)->y.sound=true/\y.Nums:=by
 intro l
 induction l with
 |nil=>intro v y hs hn _ h;rw [doAllP] at h;injection h with h _;subst h;exact ⟨hs,hn⟩
 | cons c r ih=>
   intro v y hs hn hc h;obtain ⟨x,h1,h2⟩:=zep (a:= [c]) h;have h1:=Qq.1 h1;have e:x=(doP v c).1:=by rw [h1]
   subst e;exact ih (X5 hs) (K0 zaa hn (hc c (List.mem_cons_self ..)).2 trivial) (fun d hd=>hc d (List.mem_cons_of_mem _ hd)) h2
structure Trm (v:V) (l:List Cm) (y:V):Prop where
 dn:doAllP v l=(y,0)
 ok:OpOk v l
 nm:∀c ∈ l,c.Nums
theorem Trm.parts {v y:V} {a b:List Cm} (h:Trm v (a++b) y):∃x,Trm v a x/\Trm x b y:=by
 obtain ⟨x,h1,h2⟩:=zep h.dn;obtain ⟨o1,o2⟩:=zmp b a v h.ok;refine ⟨x,⟨h1,o1,fun c hc=>h.nm c (List.mem_append_left _ hc)⟩,⟨h2, ?_,fun c hc=>h.nm c (List.mem_append_right _ hc)⟩⟩;have:=o2 (by rw [h1])
 rwa [h1] at this
theorem Trm.join {v x y:V} {a b:List Cm} (h:Trm v a x) (g:Trm x b y):Trm v (a++b) y:=
 ⟨zi9 h.dn g.dn,zct b a v h.ok fun _=>by rw [h.dn];exact g.ok,fun c hc=>by
  rcases List.mem_append.1 hc with hc|hc
  .exact h.nm c hc
  .exact g.nm c hc⟩
theorem zom {z c m:Cm} (hz:z.Nums) (hc:c.Nums) (h:joinC z c=some (some m)):m.Nums/\m.s.size<=z.s.size+c.s.size/\(m.v=z.v∨m.v=c.v):=by
 unfold joinC at h;split at h
 .cases h
 .split at h
  .split at h
   .cases h
   .injection h with h;injection h with h;subst h;exact ⟨⟨by show -9223372036854775808<=wrap64 _/\wrap64 _<=9223372036854775807;unfold wrap64;omega,hz.2⟩,Nat.le_add_right _ _, .inl rfl⟩
  .split at h
   .injection h with h;injection h with h;subst h;exact ⟨hc,Nat.le_add_left _ _, .inr rfl⟩
   .split at h
    .injection h with h;injection h with h;subst h;exact ⟨⟨hz.1,hz.2⟩,Nat.le_of_eq ByteArray.size_append, .inl rfl⟩
    .cases h
theorem zp9 {v y:V} {l:List Cm} {c:Cm} (hs:v.sound=true) (hn:v.Nums) (h:Trm v (l++ [c]) y) (hz:sumS (l++ [c])<=1000000000000):Trm v (ontoP l c) y/\sumS (ontoP l c)<=sumS (l++ [c]):=by
 unfold ontoP;by_cases hi:idleB c=true
 .rw [if_pos hi];obtain ⟨x,h1,h2⟩:=h.parts;obtain ⟨_,xn⟩:=zcf l hs hn h1.nm h1.dn;have hyx:=zka xn (Qq.1 h2.dn) hi;subst hyx;exact ⟨h1,by rw [Z5];omega⟩
 .rw [if_neg hi];rcases List.eq_nil_or_concat l with rfl|⟨l',z,rfl⟩
  .exact ⟨h,zza _⟩
  .rw [List.concat_eq_append] at h hz ⊢;rw [List.getLast?_append];simp only [List.getLast?_singleton,Option.some_or,List.dropLast_concat]
   cases hj:joinC z c with
   |none=>exact ⟨h,zza _⟩
   | some J=>
     obtain ⟨x1,h1,h2⟩:=h.parts;obtain ⟨x0,h3,h4⟩:=h1.parts;obtain ⟨xs,xn⟩:=zcf l' hs hn h3.nm h3.dn;obtain ⟨k1,k2,k3,k4,_⟩:=h4.ok;obtain ⟨c1,c2,c3,c4,_⟩:=h2.ok;rw [Z5,Z5,Y8,Y8] at hz;obtain ⟨j1,j2⟩:=zfz xs xn (by omega) k4 (Qq.1 h4.dn) (Qq.1 h2.dn);have hsum:sumS (l'++ [z] ++ [c])=sumS l'+z.s.size+c.s.size:=by rw [Z5,Z5,Y8,Y8]
     cases J with
     | none=>have:=j1 hj;subst this;exact ⟨h3,by show sumS l'<=_;rw [hsum];omega⟩
     | some m=>
       obtain ⟨d1,_⟩:=j2 m hj;obtain ⟨n1,n2,n3⟩:=zom (h4.nm z (by simp)) (h2.nm c (by simp)) hj;refine ⟨h3.join ⟨Qq.2 d1,⟨k1,k2, ?_,by omega,fun _=>trivial⟩,fun e he=>by rw [List.mem_singleton] at he;subst he;exact n1⟩,by show sumS (l'++ [m])<=_;rw [hsum,Z5,Y8];omega⟩;rcases n3 with e|e
       .rw [e];exact k3
       .rw [e];exact c3
theorem zjs {v y:V} (hs:v.sound=true) (hn:v.Nums):∀(r l:List Cm),Trm v (l++r) y->sumS (l++r)<=1000000000000->Trm v (r.foldl ontoP l) y:=by
 intro r
 induction r with
 |nil=>intro l h _;rwa [List.append_nil] at h
 | cons c r ih=>intro l h hz;rw [show l++c::r=l++ [c] ++r by simp] at h hz;obtain ⟨x,h1,h2⟩:=h.parts;rw [Z5] at hz;obtain ⟨g1,g2⟩:=zp9 hs hn h1 (by omega);exact ih _ (g1.join h2) (by rw [Z5];omega)
theorem zo0 (l:List Cm) (c:Cm):(ontoP l c).length<=l.length+1:=by
 unfold ontoP;split
 .omega
 .split
  .simp
  .split<;>simp<;>omega
theorem K9:∀(r l:List Cm),(r.foldl ontoP l).length<=l.length+r.length:=by
 intro r
 induction r with
 |nil=>intro l;exact zza _
 |cons c r ih=>intro l;have h1:=ih (ontoP l c);have h2:=zo0 l c;rw [List.foldl_cons,List.length_cons];omega
theorem zkx (w:World) (vk vn:Int) (vs:ByteArray) (la:Option Addr) (ll lc:Nat) (oa:Option Addr) (ol oc:Nat) (v:V) (hv:IsVal w w.heap.size v ⟨vk,vn,vs,la,ll,lc,oa,ol,oc⟩) (hw:v.weight<=20000) (l:List Ac) (a:Option Addr) (n c:Nat) (hl:IsActs w w.heap.size l a n c) (hT:Tabs w):
 uP 13 #[.agg (uU vk vn vs la ll lc oa ol oc), .slice a n c] w (AimPost w (aimP v (l.take 20))):=by
 delta uU uP;obtain ⟨i0,hi0,hz0,hz1,hz2⟩:=info_parts Qo;have hmax:=hl.max;have hcap:=hl.cap;have HLN:=qh hl.len;have HAC:=qh hl;obtain ⟨R,hR⟩:∃R,AimPost w (aimP v (l.take 20))=R:=⟨_,rfl⟩;rw [hR];have HR:=qh hR;have HS:=qh (AH.start (t:=29) (l.take 20) hv hw);have HT:=qh hT;clear hl hv hR hT;go_enter Tryz.func13,Tryz.ntmps13
 go_wp2_with fail
 go_loopg [5,6,7,8,9,10] 20 (fun gh u i _ _ _ _ wr=>∃(j:Nat) (x:V) (cx:VC) (ua:Option Addr) (m uc:Nat) (xs:List Cm) (cs:List CC),j<=n/\j<=20/\gh=20 - j/\i= .int .i64 j/\u= .slice ua m uc/\m=xs.length/\AH w wr v (l.take 20) j x cx (.slice ua m uc) xs cs)
 case atStart=>exact ⟨0,v,_,none,0,0, [], [],Nat.zero_le _,Nat.zero_le _,rfl,rfl,rfl,rfl,HS.out⟩
 case round =>
  obtain ⟨j,x,cx,ua,m,uc,xs,cs,hj,hj8,rfl,rfl,rfl,hmx,L⟩:=hrel;obtain ⟨v0,v1,v2,v3,v4⟩:=row5 L.box.at_;have zs:=L.box.lt;have hfx:=L.few;have HL:=qh L;have HMX:=qh hmx;clear L hmx;by_cases hcont:j<n/\j<20
  .obtain ⟨hlt,hlt8⟩:=hcont;obtain ⟨b,q,f,hpl,rfl,hbB,hat,hia⟩:=HAC.out.get hlt;have hat2:=hat.keep HL.out.below hbB;obtain ⟨act,hact⟩:∃y,l[j] =y:=⟨_,rfl⟩;rw [hact] at hia;have hdr:(l.take 20).drop j=act::(l.take 20).drop (j+1):=by
    have h8:j<(l.take 20).length:=by rw [zzd];omega
    rw [List.drop_eq_getElem_cons h8,List.getElem_take,hact]
   have HDR:=qh hdr;have hbw:b<wr.heap.size:=zzi wr _ hat2.c0;have hzb:=HL.out.below.size;obtain ⟨r,hr⟩:∃r,oneC x act=r:=⟨_,rfl⟩;have HRR:=qh hr;have hwx:x.weight<=20000+20100*20:=zzl HL.out.wt (by omega);have hval:IsVal wr wr.heap.size x cx:=HL.out.val.sub (Zl _ _ _);have HC:Hid (∀W,Below wr.heap.size wr.drew W->uP 32 #[.agg (uV cx), .agg (uA f)] W (OnePost W r)):=fun W hW=>by have hbW:uB wr W:=(Zf wr).trans hW;rw [<-hr];exact zg1 W cx.k cx.n cx.s cx.la cx.ll cx.lc cx.oa cx.ol cx.oc x (hval.later_ hbW) (by omega) f act ((hia.keep (HL.out.below.trans (hbW.mono hzb))).more (zzl hzb hbW.size))
   have HFB:Hid (∀W,Below wr.heap.size wr.drew W->W.cell? ⟨w.heap.size,0,none⟩=some (.int .u8 cx.k)/\W.cell? ⟨w.heap.size,1,none⟩=some (.int .i64 cx.n)/\W.cell? ⟨w.heap.size,2,none⟩=some (.string cx.s)/\W.cell? ⟨w.heap.size,3,none⟩=some (.slice cx.la cx.ll cx.lc)/\W.cell? ⟨w.heap.size,4,none⟩=some (.slice cx.oa cx.ol cx.oc)/\W.cell? ⟨b,q+j*7,none⟩=some (.slice f.pa f.pl f.pc)/\W.cell? ⟨b,q+j*7+1,none⟩=some (.int .u8 f.k)/\W.cell? ⟨b,q+j*7+2,none⟩=some (.int .i64 f.i)/\W.cell? ⟨b,q+j*7+3,none⟩=some (.int .i64 f.j)/\W.cell? ⟨b,q+j*7+4,none⟩=some (.int .i64 f.n)/\W.cell? ⟨b,q+j*7+5,none⟩=some (.string f.s)/\W.cell? ⟨b,q+j*7+6,none⟩=some (.slice f.va f.vl f.vc)):=by intro W hW;have hk:∀b o u,b<wr.heap.size->wr.cell? ⟨b,o,none⟩=some u->W.cell? ⟨b,o,none⟩=some u:=fun b o u hb h=>Zb hW (Zb (Zf wr) h hb) hb;exact ⟨hk _ _ _ zs v0,hk _ _ _ zs v1,hk _ _ _ zs v2,hk _ _ _ zs v3,hk _ _ _ zs v4,hk _ _ _ hbw hat2.c0,hk _ _ _ hbw hat2.c1,hk _ _ _ hbw hat2.c2,hk _ _ _ hbw hat2.c3,hk _ _ _ hbw hat2.c4,hk _ _ _ hbw hat2.c5,hk _ _ _ hbw hat2.c6⟩
   have HVAL:=qh hval;have HWX:=qh hwx;clear hat hat2 hia hact hdr hr hwx hval;go_upto_region 5 with fail
   go_cut [7,8] from 11 to 44 (fun c7 c8 wx=>∃(yb:Nat) (cc:CC) (nn:Int),c7= .pointer (some ⟨yb,0,none⟩)/\c8= .int .i64 nn/\BC wx yb (ccells cc)/\Below wr.heap.size wr.drew wx/\wr.heap.size<=yb/\Hid (OneRes wr.heap.size r nn wx cc))
   case first=>
    go_wp2_with fail;refine wp_region_noPanic ?_
    go_region_held_law (fun W=>W.cell? ⟨w.heap.size,0,none⟩=some (.int .u8 cx.k)/\W.cell? ⟨w.heap.size,1,none⟩=some (.int .i64 cx.n)/\W.cell? ⟨w.heap.size,2,none⟩=some (.string cx.s)/\W.cell? ⟨w.heap.size,3,none⟩=some (.slice cx.la cx.ll cx.lc)/\W.cell? ⟨w.heap.size,4,none⟩=some (.slice cx.oa cx.ol cx.oc)/\W.cell? ⟨b,q+j*7,none⟩=some (.slice f.pa f.pl f.pc)/\W.cell? ⟨b,q+j*7+1,none⟩=some (.int .u8 f.k)/\W.cell? ⟨b,q+j*7+2,none⟩=some (.int .i64 f.i)/\W.cell? ⟨b,q+j*7+3,none⟩=some (.int .i64 f.j)/\W.cell? ⟨b,q+j*7+4,none⟩=some (.int .i64 f.n)/\W.cell? ⟨b,q+j*7+5,none⟩=some (.string f.s)/\W.cell? ⟨b,q+j*7+6,none⟩=some (.slice f.va f.vl f.vc))
     ((refine HFB.out _ ?_;(first|(with_reducible exact bl4)|(with_reducible exact zzc _ _)|(with_reducible exact Zo _ _)|(with_reducible exact Below.alloc bl4 bz4 _)|(with_reducible exact Below.setC bl4 (zza _) cc))))
     (first
      |(go_at_call 32;(with_reducible refine (HC.out _ (zzc _ _)).mono ?_);rintro e w4 h4;obtain ⟨cc,nn,rfl,ho,hb4⟩:=h4.any;clear h4;have HO:=qh ho;clear ho;have bl4:Below wr.heap.size wr.drew w4:=hb4;have bz4:wr.heap.size<=w4.heap.size:=hb4.size)
      |(go_at_call 32;(with_reducible refine (HC.out _ (Zo _ _)).mono ?_);rintro e w4 h4;obtain ⟨cc,nn,rfl,ho,hb4⟩:=h4.any;clear h4;have HO:=qh ho;clear ho;have bl4:Below wr.heap.size wr.drew w4:=(Zo _ _).trans (hb4.mono (by simp));have bz4:wr.heap.size<=w4.heap.size:=bl4.size;have XB:=Xk hb4;obtain ⟨xc0,xc1,xc2,xc3,xc4,xc5,xc6,xc7,xc8,xc9,xc10,xc11⟩:=row12 XB.at_;have xg0:=XB.fr 0;have xg1:=XB.fr 1;have xg2:=XB.fr 2;have xg3:=XB.fr 3;have xg4:=XB.fr 4;have xg5:=XB.fr 5;have xg6:=XB.fr 6;have xg7:=XB.fr 7;have xg8:=XB.fr 8;have xg9:=XB.fr 9;have xg10:=XB.fr 10;have xg11:=XB.fr 11;have xl:=XB.lt))
    all_goals
     (first
      |(with_reducible refine Zq (P:=fun W=>BC W w4.heap.size (ccells cc)/\Below wr.heap.size wr.drew W/\wr.heap.size<=w4.heap.size/\OneRes wr.heap.size r nn W cc) (zf4 bl4 bz4 cc _ HO.out (zza _)) ?_)
      |(with_reducible refine Zq (P:=fun W=>BC W wr.heap.size (ccells cc)/\Below wr.heap.size wr.drew W/\wr.heap.size<=wr.heap.size/\OneRes wr.heap.size r nn W cc) (zj5 bl4 cc XB HO.out (by simp)) ?_))
     rintro W ⟨hbc,hbW,hyb,ho⟩;have HO2:=qh ho;clear ho;go_wp2_with fail;go_meet;exact ⟨_,cc,nn,rfl,rfl,hbc,hbW,hyb,HO2⟩
   case rest=>
    clear v0 v1 v2 v3 v4;obtain ⟨yb,cc,nn,rfl,rfl,Y,hb5,hyb,HO⟩:=hcut;have hbw5:uB wr wc:=(Zf wr).trans hb5;have LB:=HL.out.box.keep hbw5 zs;obtain ⟨v0,v1,v2,v3,v4⟩:=row5 LB.at_;have vf0:=LB.fr 0;have vf1:=LB.fr 1;have vf2:=LB.fr 2;have vf3:=LB.fr 3;have vf4:=LB.fr 4;have zs5:=LB.lt;have HB5:=qh hbw5;clear LB hb5 hbw5
    cases r with
    | none=>
      obtain rfl:nn=0:=HO.out;have hrd:aimP x ((l.take 20).drop j)=aimP x ((l.take 20).drop (j+1)):=by rw [HDR.out,aimP,HRR.out]
      have HSK:=qh (HL.out.skip HB5.out hrd);clear hrd Y;go_wp2_with fail
      go_roundg (20 - (j+1))
      case measure=>omega
      case rel=>exact ⟨j+1,x,cx,ua,m,uc,xs,cs,by omega,by omega,rfl,by go_num,rfl,HMX.out,HSK.out⟩
    | some cm=>
      obtain ⟨hn1,hcm⟩:=HO.out;subst hn1;have hsm:=Jh HRR.out;have hzc:=HB5.out.size;obtain ⟨z,hz⟩:∃z,doP x cm=z:=⟨_,rfl⟩;have HDO:Hid (uP 33 #[.agg (uV cx), .agg (uC cc)] wc (DoPost wc z)):=by
       rw [<-hz]
       cases hcm with
       | mk _ p xv hbd hp hxv=>have h1:=hsm.sv;have h2:=hsm.ss;dsimp only at h1 h2;exact zdb wc cx.k cx.n cx.s cx.la cx.ll cx.lc cx.oa cx.ol cx.oc x (HVAL.out.later_ HB5.out) (by have:=HWX.out;omega) p xv cc hbd (hp.sub (Zl _ _ _)) (hxv.sub (Zl _ _ _)) (by omega) (fun y hy=>by have:=Z0 _ hy;have:=y.str_weight.1;have:=HWX.out;omega) (HT.out.below (HL.out.below.trans (HB5.out.mono hzb)))
      have HCM:=qh hcm;have HZ:=qh hz;obtain ⟨y0,y1,y2,y3,y4,y5,y6,y7,y8,y9,y10,y11⟩:=row12 Y.at_;have zy:=Y.lt;have HY:=qh Y;obtain ⟨y,er⟩:=z;clear hsm hcm hz Y;go_wp2_with fail;refine HDO.out.mono ?_;rintro e w6 ⟨⟨d,rfl,hI6⟩,hb6⟩;have hz56:=hb6.size;have LB:=(HL.out.box.keep HB5.out zs).keep hb6 (by omega);have Y:=HY.out.keep hb6 zy;clear v0 v1 v2 v3 v4 vf0 vf1 vf2 vf3 vf4 y0 y1 y2 y3 y4 y5 y6 y7 y8 y9 y10 y11;obtain ⟨v0,v1,v2,v3,v4⟩:=row5 LB.at_;have vf0:=LB.fr 0;have vf1:=LB.fr 1;have vf2:=LB.fr 2;have vf3:=LB.fr 3;have vf4:=LB.fr 4;obtain ⟨y0,y1,y2,y3,y4,y5,y6,y7,y8,y9,y10,y11⟩:=row12 Y.at_;have zs6:=LB.lt;have zy6:=Y.lt;have HI6:=qh hI6;have HB6:=qh hb6;have HY6:=qh Y;clear LB Y hI6 hb6;dsimp only at HI6;have hal:uB w6 (w6.alloc (.cells (uV d) 29)):=(zzc _ _).alloc (zza _) _;have HAL:=qh hal;clear hal;by_cases he:er=0
      .subst he;have hrd:aimP x ((l.take 20).drop j)=cm::aimP y ((l.take 20).drop (j+1)):=by rw [HDR.out,aimP,HRR.out];dsimp only;rw [HZ.out,if_pos rfl]
       have hwy:y.weight<=x.weight+20100:=by have:=zb2 HRR.out (by rw [HZ.out]);rw [HZ.out] at this;exact this
       have hm:=AH.mid HL.out HB5.out HCM.out HB6.out HI6.out (.cells (uV d) 29);have HM:=qh hm;have HRD:=qh hrd;have HWY:=qh hwy;have hal7:uB (setV w6 w.heap.size 0 d) ((setV w6 w.heap.size 0 d).alloc (.cells (uV d) 29)):=(zzc _ _).alloc (zza _) _;have hst7:=Zh w6 w.heap.size 0 d;have hY7:=(HY6.out.next hst7 (by omega)).keep hal7 (zzj zy6 hst7.size);have hz7:wr.heap.size<=((setV w6 w.heap.size 0 d).alloc (.cells (uV d) 29)).heap.size:=by have:=hst7.size;have:=hal7.size;omega
       have HY7:=qh hY7;have HZ7:=qh hz7;clear hm hrd hwy hY7 hz7 hal7 hst7;obtain ⟨rfl⟩:m=xs.length:=HMX.out;go_upto_region 10 with fail
       generalize hw7:World.alloc _ _=w7;have hm7:AM w wr w7 x y cm d cc (.slice ua xs.length uc) xs cs:=by rw [<-hw7];exact HM.out
       have Y:BC w7 yb (ccells cc):=by rw [<-hw7];exact HY7.out
       have hz7:wr.heap.size<=w7.heap.size:=by rw [<-hw7];exact HZ7.out
       clear hw7 v0 v1 v2 v3 v4 vf0 vf1 vf2 vf3 vf4 y0 y1 y2 y3 y4 y5 y6 y7 y8 y9 y10 y11;obtain ⟨y0,y1,y2,y3,y4,y5,y6,y7,y8,y9,y10,y11⟩:=row12 Y.at_;have zy7:=Y.lt;have hown:=hm7.row.own;have HM7:=qh hm7;clear hm7 Y;go_wp2_with (at_builtin;refine wpList_append_lies _ rfl (.tmp 41) (.tmp 43) 31 (by rfl) (w.heap.size+1) 54 i0 _ 12 168 Tryz.underlying31 hi0 hz0 hz1 hz2 rfl (by omega) (.slice ua xs.length uc) xs.length (cs.flatMap ccells) (by rfl) (hown.alloc _) ⟨w7.heap.size,0,none⟩ 1 1 (ccells cc) (by rfl) (by rfl) (Qt w7 cc _) (by simp [ccells,Value.oneCell']) (by omega) (by unfold maxLen;omega) (by omega) (by first|omega|(simp;omega)) (w7.heap.size+1) (by simp) ?_;intro g cap w9 hown9 hgrow9 hat9 hlt9)
       go_roundg (20 - (j+1))
       case measure=>omega
       case rel=>exact ⟨j+1,y,d,some ⟨g,0,none⟩,xs.length+1,cap,xs++ [cm],cs++ [cc],by omega,by omega,rfl,by go_num,rfl,by simp,HL.out.round HM7.out hz7 HRD.out HWY.out hown9 hgrow9 hat9⟩
      .have hne:(er==0)=false:=by simp [he]
       have hrd:aimP x ((l.take 20).drop j)=aimP x ((l.take 20).drop (j+1)):=by rw [HDR.out,aimP,HRR.out];dsimp only;rw [HZ.out,if_neg he]
       have HSK:=qh (HL.out.skip (HB5.out.trans ((HB6.out.trans (HAL.out.mono hz56)).mono hzc)) hrd);clear hrd;go_wp2_with fail
       go_roundg (20 - (j+1))
       case measure=>omega
       case rel=>exact ⟨j+1,x,cx,ua,m,uc,xs,cs,by omega,by omega,rfl,by go_num,rfl,HMX.out,HSK.out⟩
  .have hdr:(l.take 20).drop j= [] :=by apply List.drop_eq_nil_of_le;rw [zzd, <-HLN.out];omega
   have hrd:=HL.out.rd;rw [hdr,aimP,List.append_nil] at hrd;have HRD:=qh hrd;have hex:¬j<n∨(j<n/\¬j<20):=by omega
   clear hrd hdr hcont;rcases hex with hq|⟨hq,hq8⟩;all_goals
    go_wp2_with fail;rw [<-HR.out, <-HRD.out,HMX.out]
    exact ⟨⟨_,_,_,rfl,RowC.comps (by rw [<-HMX.out];exact HL.out.row) HL.out.cen (by omega) (by omega)⟩,HL.out.below⟩
end Go.Proofs.YtbgheehjfnoiiaaGreatDoor
