/- Walks. -/
import Derived.Test.YtbgheehjfnoiiaaGreatDoorIu39
import Derived.Test.YtbgheehjfnoiiaaGreatDoorIu41
namespace Go.Proofs.YtbgheehjfnoiiaaGreatDoor
open Go.RowKit
set_option maxRecDepth 100000
set_option maxHeartbeats 16000000
theorem zgh (w:World) (base:Nat) (hb0:0<base) (a:Option Addr) (c:Nat) (cs:List CC) (h:RowC w base (.slice a 0 c) [] cs) (hl:cs.length=0) (cm:Cm) (cc:CC) (lo:Nat) (hbase:base<=lo) (hlo:∀k,(Value.slice a 0 c).ownBlock=some k->k<lo) (hlw:lo<=w.heap.size) (hc:IsComp (only (fun k=>lo<=k) w) w.heap.size cm cc) (hid:idleB cm=false):
 uP 72 #[.slice a 0 c, .agg (uC cc)] w (OntoPost w base [cm]):=by
 delta uC uP;obtain rfl:cs= [] :=List.length_eq_zero_iff.1 hl;obtain ⟨LL,hLL⟩:∃LL, [cm] =LL:=⟨_,rfl⟩;rw [hLL];have HLL:=qh hLL;clear hLL hl;obtain ⟨i0,hi0,hz0,hz1,hz2⟩:=info_parts Qo;obtain ⟨w1,hw1⟩:∃W,w.alloc (.cells (uC cc) 54)=W:=⟨_,rfl⟩;have hb1:uB w w1:=by rw [<-hw1];exact X0 w _
 have hx1:BC w1 w.heap.size (ccells cc):=by rw [<-hw1];exact BC.start w (uC cc) 54
 have HON:Hid (ON w w1 base (.slice a 0 c) [] [] cc):=qh ⟨h.later (PC.closed _ _) (.of_below 0 hb1) hb0,hx1,hb1⟩;have hcf:cm.k=cc.k/\cm.n=cc.n/\cm.i=cc.i/\cm.j=cc.j:=by cases hc with|mk cc p xv _ hp _=>exact ⟨rfl,rfl,rfl,rfl⟩
 have hid2:(cc.k=1->cc.n≠0)/\(cc.k=7->cc.i≠cc.j):=by obtain ⟨e1,e2,e3,e4⟩:=hcf;simp only [idleB,e1,e2,e3,e4,Bool.or_eq_false_iff,Bool.and_eq_false_iff,beq_eq_false_iff_ne] at hid;obtain ⟨i1,i2⟩:=hid;exact ⟨fun e=>by rcases i1 with h|h;exact absurd e h;exact h,fun e=>by rcases i2 with h|h;exact absurd e h;exact h⟩
 have HCM:=qh hc;have HID:=qh hid2;obtain ⟨c0,c1,c2,c3,c4,c5,c6,c7,c8,c9,c10,c11⟩:=row12 hx1.at_;have zc:=hx1.lt;clear h hc hid hb1 hx1 hcf hid2;go_enter Tryz.func72,Tryz.ntmps72
 go_upto_region 1 with fail
 clear hw1
 go_cut [25] from 6 to 25 (fun r wx=>r= .bool false/\wx=w1)
 case first=>
  by_cases k1:cc.k=1
  .have k2:(cc.n==0)=false:=by simpa using HID.out.1 k1
   rw [k1] at c0;go_wp2_with fail;go_meet;exact ⟨rfl,rfl⟩
  .have k2:(cc.k==1)=false:=by simpa using k1
   by_cases k7:cc.k=7
   .have k8:(cc.i==cc.j)=false:=by simpa using HID.out.2 k7
    rw [k7] at c0;clear k1 k2;go_wp2_with fail;go_meet;exact ⟨rfl,rfl⟩
   .have k8:(cc.k==7)=false:=by simpa using k7
    go_wp2_with fail;go_meet
    exact ⟨rfl,rfl⟩
 case rest=>
 obtain ⟨rfl,rfl⟩:=hcut;go_upto_region 4 with fail
 go_cut [52] from 30 to 52 (fun r wx=>r= .bool true/\uB wc wx)
 case first=>
  refine Zj (by kernel_rfl) (by kernel_rfl) ?_;repeat (go_big_quiet_step ((fail)))
  refine wpQuiet_nil ?_;intro _ hw';obtain ⟨pq,hw''⟩:=hw';subst hw'';go_wp2_with fail;go_meet;exact ⟨rfl,Ze _ _⟩
 case rest=>
 obtain ⟨rfl,hb5⟩:=hcut;have HO5:=qh (HON.out.later hb0 hb5);clear c0 c1 c2 c3 c4 c5 c6 c7 c8 c9 c10 c11 zc;have hx5:=HO5.out.box;obtain ⟨c0,c1,c2,c3,c4,c5,c6,c7,c8,c9,c10,c11⟩:=row12 hx5.at_;have zc:=hx5.lt;clear hx5 hb5 HON;have hown:wc.ownsRow base 54 12 (.slice a 0 c) 0 ([] :List Value):=HO5.out.row.own;have hbz:=HO5.out.below.size;have hfin:∀g2 cap2 w9,w9.ownsRow base 54 12 (.slice (some ⟨g2,0,none⟩) (0+1) cap2) (0+1) ([] ++ccells cc)->(wc.alloc (.cells (uC cc) 54)).grownBy w9 (Value.slice a 0 c).ownBlock->((Value.slice a 0 c).ownBlock=some g2∨g2=wc.heap.size+1)->OntoPost w base LL (.returned (.slice (some ⟨g2,0,none⟩) (0+1) cap2)) w9:=fun g2 cap2 w9 k1 k2 k3=>by have hd5:IsComp (only (fun k=>lo<=k) wc) wc.heap.size cm cc:=Y5 HCM.out rfl hbz fun k hk hl=>⟨hk,HO5.out.below.block k hl⟩;have:=RowC.snoc (w9:=w9) (g:=g2) (cap:=cap2) HO5.out.row rfl hbase hlo hd5 k1 k2 k3;rw [<-HLL.out];exact ⟨⟨some ⟨g2,0,none⟩,cap2, [cc],rfl,this,rfl⟩,(HO5.out.below.mono (by omega)).trans (((X0 wc _).mono (by omega)).trans (Zi k2 (fun k hk=>(HO5.out.row.lt k hk).1) (by rw [zzk];omega)))⟩
 have HFIN:=qh hfin;clear hfin;go_wp2_with (at_builtin;refine wpList_append_lies _ rfl (.tmp 53) (.tmp 55) 31 (by rfl) base 54 i0 _ 12 168 Tryz.underlying31 hi0 hz0 hz1 hz2 rfl (by omega) (.slice a 0 c) 0 ([] :List Value) (by rfl) (hown.alloc _) ⟨wc.heap.size,0,none⟩ 1 1 (ccells cc) (by rfl) (by rfl) (Qt wc cc _) (by simp [ccells,Value.oneCell']) (by omega) (by unfold maxLen;omega) (by omega) (by simp;omega) (wc.heap.size+1) (by simp) ?_;intro g2 cap2 w9 hown9 hgrow9 hat9 hlt9;have HF9:=qh (HFIN.out g2 cap2 w9 hown9 hgrow9 hat9);clear hown9 hgrow9 hat9)
 go_returns;exact HF9.out
theorem zf0 (w:World) (base:Nat) (hb0:0<base) (a:Option Addr) (c:Nat) (l:List Cm) (cs:List CC) (h:RowC w base (.slice a l.length c) l cs) (hl:cs.length=l.length) (cm:Cm) (cc:CC) (lo:Nat) (hbase:base<=lo) (hlo:∀k,(Value.slice a l.length c).ownBlock=some k->k<lo) (hlw:lo<=w.heap.size) (hc:IsComp (only (fun k=>lo<=k) w) w.heap.size cm cc) (hn:l.length<=1000) (hsz:∀z ∈ l,z.s.size<=1000000000000) (hcs:cm.s.size<=1000000000000) (hT:Tabs w):
 uP 72 #[.slice a l.length c, .agg (uC cc)] w (OntoPost w base (ontoP l cm)):=by
 delta uC uP;by_cases hi:idleB cm=true
 .have hcf:cm.k=cc.k/\cm.n=cc.n/\cm.i=cc.i/\cm.j=cc.j:=by cases hc with|mk cc p xv _ hp _=>exact ⟨rfl,rfl,rfl,rfl⟩
  have e:ontoP l cm=l:=by unfold ontoP;rw [if_pos hi]
  rw [e];refine (zj2 w a l.length c cm cc hcf.1 hcf.2.1 hcf.2.2.1 hcf.2.2.2 hi).mono ?_;rintro e w' ⟨rfl,hb⟩;exact ⟨⟨a,c,cs,rfl,h.later (PC.closed _ _) (.of_below 0 hb) hb0,hl⟩,hb.mono (by omega)⟩
 .have hid:idleB cm=false:=by simpa using hi
  rcases List.eq_nil_or_concat l with rfl|⟨l',z,rfl⟩
  .have e:ontoP [] cm= [cm] :=by unfold ontoP;rw [if_neg hi];rfl
   rw [e];exact zgh w base hb0 a c cs h hl cm cc lo hbase hlo hlw hc hid
  .rw [List.concat_eq_append] at h hl hlo hn hsz ⊢;rcases List.eq_nil_or_concat cs with rfl|⟨cs',d,rfl⟩
   .simp at hl
   .rw [List.concat_eq_append] at h hl;have hl0:(l'++ [z]).length=l'.length+1:=by simp
    have hlc:cs'.length=l'.length:=by simpa using hl
    rw [hl0] at h hlo hn ⊢;obtain ⟨g,rfl⟩:∃g,a=some ⟨g,0,none⟩:=by
     rcases h.own.2 with ⟨e,h0⟩|⟨g,_,_,e,_⟩
     .simp at h0
     .injection e with e1;exact ⟨g,e1⟩
    exact znz w base hb0 g c l'.length l' z cs' d h rfl hlc cm cc lo hbase (hlo g rfl) hlw hc (by omega) hid (hsz z (by simp)) hcs hT
theorem zgn {z c m:Cm} (h:joinC z c=some (some m)):m.s.size<=z.s.size+c.s.size:=by
 unfold joinC at h;split at h
 .cases h
 .split at h
  .split at h
   .cases h
   .injection h with h;injection h with h;subst h;exact Nat.le_add_right _ _
  .split at h
   .injection h with h;injection h with h;subst h;exact Nat.le_add_left _ _
   .split at h
    .injection h with h;injection h with h;subst h;exact Nat.le_of_eq ByteArray.size_append
    .cases h
theorem zip (l:List Cm) (c:Cm):sumS (ontoP l c)<=sumS l+c.s.size:=by
 by_cases hi:idleB c=true
 .unfold ontoP;rw [if_pos hi];omega
 .rcases List.eq_nil_or_concat l with rfl|⟨l',z,rfl⟩
  .unfold ontoP;rw [if_neg hi];show sumS [c] <=_;rw [Y8];omega
  .rw [List.concat_eq_append,zc6 (by simpa using hi)]
   cases hj:joinC z c with
   |none=>show sumS (l'++ [z] ++ [c])<=_;rw [Z5 (l'++ [z]),Y8];exact zza _
   | some J=>
     cases J with
     |none=>show sumS l'<=_;rw [Z5];omega
     |some m=>have:=zgn hj;show sumS (l'++ [m])<=_;rw [Z5,Z5,Y8,Y8];omega
theorem zpu:∀(r l:List Cm),sumS (r.foldl ontoP l)<=sumS l+sumS r:=by
 intro r
 induction r with
 |nil=>intro l;exact Nat.le_add_right _ _
 | cons c r ih=>
   intro l;have h1:=ih (ontoP l c);have h2:=zip l c;have h3:sumS (c::r)=c.s.size+sumS r:=by simp [sumS]
   rw [List.foldl_cons];omega
theorem zbv {l:List Cm} {z:Cm} (h:z ∈ l):z.s.size<=sumS l:=by
 induction l with
 |nil=>cases h
 | cons c r ih=>
   have h3:sumS (c::r)=c.s.size+sumS r:=by simp [sumS]
   rcases List.mem_cons.1 h with rfl|h
   .omega
   .have:=ih h;omega
structure TY (w wr:World) (op:List Cm) (j:Nat) (L:List Cm) (u:Value) (cs:List CC):Prop where
 row:RowC wr w.heap.size u L cs
 cen:cs.length=L.length
 is:L=(op.take j).foldl ontoP []
 below:Below w.heap.size w wr
theorem zpt (w:World) (op:List Cm) (oa:Option Addr) (on oc:Nat) (hop:IsComps w w.heap.size op oa on oc) (hn:on<=1000) (hs:sumS op<=1000000000000) (hT:Tabs w):
 uP 38 #[.slice oa on oc] w (AimPost w (trimP op)):=by
 delta uP;have hmax:=hop.max;have hcap:=hop.cap;have hlen:=hop.len;subst hlen;have HOP:=qh hop;have HTT:=qh hT;have HS:=qh hs;have HLY:Hid (TY w w op 0 [] (.slice none 0 0) []):=qh ⟨Row.nil _ _ _ _ _,rfl,rfl,zzc _ _⟩;clear hop hT hs;go_enter Tryz.func38,Tryz.ntmps38
 generalize hQ0:bodyPost _ _ _=Q0;have HQ:=qh hQ0;clear hQ0;go_wp2_with fail
 go_loopw [3,4] (fun s i wr=>∃(j:Nat) (L:List Cm) (a:Option Addr) (c:Nat) (cs:List CC),s= .slice a L.length c/\i= .int .i64 j/\j<=op.length/\Hid (TY w wr op j L (.slice a L.length c) cs)) (fun _ i _=>op.length - (intOf i).toNat)
 case atStart=>exact ⟨0, [],none,0, [],rfl,rfl,Nat.zero_le _,HLY⟩
 case round=>
  obtain ⟨j,L,a,c,cs,rfl,rfl,hj,HL⟩:=hrel;clear HLY;by_cases hlt:j<op.length
  .have hlh:=HL.out;obtain ⟨b,o,f,h5,h6⟩:=HOP.out.at_;obtain ⟨rfl,hbB⟩:=h5 (by omega);obtain ⟨hat,hic⟩:=h6 j hlt;have hat2:=hat.keep hlh.below hbB;have hbw:=zzj hbB hlh.below.size;obtain ⟨cc,hcc⟩:∃c,f j=c:=⟨_,rfl⟩;rw [hcc] at hat2 hic;obtain ⟨cm,hcm⟩:∃y,op[j] =y:=⟨_,rfl⟩;rw [hcm] at hic;have HC:=qh (zmz wr cm cc ((hic.keep hlh.below).more hlh.below.size));have hnx:ontoP L cm=(op.take (j+1)).foldl ontoP [] :=by rw [List.take_add_one,zzg hlt,hcm,List.foldl_append, <-hlh.is];rfl
   have hmem:cm ∈ op:=by rw [<-hcm];exact List.getElem_mem hlt
   have hlL:L.length<=1000:=by have:=K9 (op.take j) [];rw [<-hlh.is,zzd] at this;simp at this;omega
   have hsL:∀z ∈ L,z.s.size<=1000000000000:=fun z hz=>by
    have h1:=zbv hz;have h2:=zpu (op.take j) [];rw [<-hlh.is] at h2;have h3:sumS (op.take j)+sumS (op.drop j)=sumS op:=by rw [<-Z5,List.take_append_drop]
    have h4:sumS ([] :List Cm)=0:=rfl;have:=HS.out;omega
   have hcs:cm.s.size<=1000000000000:=by have:=zbv hmem;have:=HS.out;omega
   obtain ⟨e0,e1,e2,e3,e4,e5,e6,e7,e8,e9,e10,e11⟩:=row12 (zdq hat2);rw [Nat.add_zero] at e0;have hj0:¬((j:Int)<0):=by omega
   have hjn:(j:Int)<(op.length:Int):=by omega
   have HNX:=qh hnx;have HBB:=qh hbB;have HLL:=qh hlL;have HSL:=qh hsL;have HCS:=qh hcs;clear h5 h6 hat hic hat2 hcc hcm hnx hlh hbB hmem hlL hsL hcs;go_wp2_with fail;refine HC.out.mono ?_;rintro e w4 ⟨⟨d,rfl,hd⟩,hb4⟩;have hb0:0<w.heap.size:=by have:=HBB.out;omega
   have hr4:=HL.out.row.later (PC.closed _ _) (.of_below b hb4) HBB.out;have hon:=zf0 w4 w.heap.size hb0 a c L cs hr4 HL.out.cen cm d wr.heap.size HL.out.below.size (fun k hk=>(HL.out.row.lt k hk).2) hb4.size hd HLL.out HSL.out HCS.out (HTT.out.below (HL.out.below.trans (hb4.mono HL.out.below.size)));have HON:=qh hon;have HB4:=qh hb4;obtain ⟨L2,hL2⟩:∃L2,ontoP L cm=L2:=⟨_,rfl⟩;rw [hL2] at HON HNX;clear hr4 hon hb4 hd hL2 HC e0 e1 e2 e3 e4 e5 e6 e7 e8 e9 e10 e11 hbw;go_wp2_with fail;refine HON.out.mono ?_;rintro e w5 ⟨⟨a5,c5,cs5,rfl,hr5,hl5⟩,hb5⟩;have HR5:=qh hr5;have HL5:=qh hl5;have HB5:=qh hb5;clear hr5 hl5 hb5;go_wp2_with fail;go_roundw
   case rel=>exact ⟨j+1,L2,a5,c5,cs5,rfl,by go_num,by omega,qh ⟨HR5.out,HL5.out,HNX.out,(HL.out.below.trans (HB4.out.mono HL.out.below.size)).trans HB5.out⟩⟩
   case measure=>simp [intOf];omega
  .obtain rfl:j=op.length:=by omega
   have hfin:AimPost w (trimP op) (.returned (.slice a L.length c)) wr:=⟨⟨a,L.length,c,rfl,by
    have h1:=HL.out.row;have h2:=HL.out.is;rw [List.take_of_length_le (zza _)] at h2;have h3:L=trimP op:=h2;have hlL:L.length<=1000:=by have:=K9 op [];rw [<-h2] at this;simp at this;omega
    have:=h1.comps HL.out.cen (zza _) (by omega);rw [<-h3];exact this⟩,HL.out.below⟩
   have HF:=qh hfin;clear hfin HL;go_wp2_with fail;rw [<-HQ.out];exact ⟨rfl,_,by simp [results,Tryz.results38,go_sem],HF.out⟩
theorem zca {P:Program} (w:World) {ops:Array Oper} {rest:List Oper} {o:Oper} {a:Act} {Q:Exit->Act->World->Prop} (hgd:o.guard=none) (s x:Operand) (t:TypeId)
 (ho:o.op= .call { callee:= .builtin .append,args:= #[s,x],argTypes:= #[t,t] })
 (e:TypeId) (i:TypeInfo) (ht:P.underlying t=some (.slice e)) (hi:P.info? e=some i)
 (hs:a.eval s= .slice none 0 0) (xa:Option Addr) (c:Nat) (hx:a.eval x= .slice xa 0 c)
 (h:wpList P ops Q rest (a.put o.dst (.slice none 0 0)) w):wpList P ops Q (o::rest) a w:=
 wpList_plain hgd fun _ hK=>by
  have hr:(Builtin.append_ #[t,t] o.type #[.slice none 0 0, .slice xa 0 c]).run P w= .ok (.slice none 0 0) w:=by cases xa<;>simp [Builtin.append_,run_underlying ht,sizeOf,typeInfo,hi,Builtin.lenOf,Builtin.firstCells,loadCells,loadCellsFrom]
  unfold Oper.wp execOp;simp only [ho,resolve,invoke,builtin,Sem.run_bind,Sem.run_pure,Result.andThen_ok,List.map_toArray,List.map_cons,List.map_nil,hs,hx,hr];exact hK _ _ h
theorem IsComps.cells {w:World} {B:Nat} {l:List Cm} {a:Option Addr} {n c:Nat} (h:IsComps w B l a n c) (hB:B<=w.heap.size):∃cs:List CC,cs.length=l.length/\(∀i (hi:i<l.length),IsComp w B l[i] (cs.getD i czero))/\(0<n->∃ad,a=some ad/\∀W,uB w W->∀j u,(cs.flatMap ccells)[j]? =some u->W.cell? (ad.add j)=some u):=by
 delta uB;obtain ⟨b,o,f,h5,h6⟩:=h.at_;have hlen:=h.len;have hg:∀i,i<l.length->((List.range l.length).map f).getD i czero=f i:=fun i hi=>by simp [List.getD_eq_getElem?_getD,hi]
 refine ⟨(List.range l.length).map f,by simp,fun i hi=>by rw [hg i hi];exact (h6 i hi).2,fun hn=> ?_⟩;obtain ⟨rfl,hb⟩:=h5 hn;refine ⟨_,rfl,fun W hW j u hj=> ?_⟩;have hj2:=(List.getElem?_eq_some_iff.1 hj).1;have hfl:(((List.range l.length).map f).flatMap ccells).length=l.length*12:=by rw [Zk ccells 12 (fun _=>rfl)];simp
 have hi:j / 12<l.length:=by omega
 have hm:j % 12<12:=by omega
 have hd:j=j / 12*12+j % 12:=by omega
 rw [hd,Yx ccells 12 (fun _=>rfl) _ (j / 12) (j % 12) (by simpa using hi) hm] at hj;rw [List.getElem_map,List.getElem_range] at hj;rw [Addr.add_lit,hd, <-Nat.add_assoc];exact Zb hW (zdq (h6 (j / 12) hi).1 _ _ hj) (zzj hb hB)
theorem zb4 (cs:List CC):∀u ∈ cs.flatMap ccells,u.oneCell'=true:=fun u hu=>by obtain ⟨v,_,hv⟩:=List.mem_flatMap.1 hu;simp only [ccells,List.mem_cons,List.mem_nil_iff,or_false] at hv;rcases hv with rfl|rfl|rfl|rfl|rfl|rfl|rfl|rfl|rfl|rfl|rfl|rfl<;>rfl
theorem zh8 (w:World) (B:Nat):IsComps w B [] none 0 0:=⟨rfl,zza _,by decide,by decide,0,0,fun _=>czero,fun h=>absurd h (by decide),fun i hi=>absurd hi (by simp)⟩
def BothPost (w:World) (l:List Cm) (e:Ending) (w':World):Prop:=(∃a n c,e= .returned (.slice a n c)/\IsComps w' w'.heap.size l a n c)/\Below w.heap.size w w'
theorem zjo (w:World) (A B:List Cm) (aa ba:Option Addr) (n ac bc:Nat) (hA:IsComps w w.heap.size A aa n ac) (hB:IsComps w w.heap.size B ba n bc) (hn:n<=200):
 uP 39 #[.slice aa n ac, .slice ba n bc] w (BothPost w (A++B)):=by
 delta uP;obtain ⟨i0,hi0,hz0,hz1,hz2⟩:=info_parts Qo;have hma:=hA.max;have hca:=hA.cap;have hmb:=hB.max;have hcb:=hB.cap;obtain ⟨LL,hLL⟩:∃LL,A++B=LL:=⟨_,rfl⟩;rw [hLL];have HLL:=qh hLL;clear hLL;by_cases h0:n=0
 .subst h0;have hl:LL= [] :=by rw [<-HLL.out,List.length_eq_zero_iff.1 hA.len.symm,List.length_eq_zero_iff.1 hB.len.symm];rfl
  have HF:Hid (BothPost w LL (.returned (.slice none 0 0)) w):=qh (by rw [hl];exact ⟨⟨none,0,0,rfl,zh8 _ _⟩,zzc _ _⟩);clear hl hA hB HLL;go_enter Tryz.func39,Tryz.ntmps39
  go_wp2_with (first|(at_builtin;refine zca _ rfl (.tmp 6) (.tmp 7) 31 (by rfl) 54 i0 Tryz.underlying31 hi0 (by rfl) aa ac (by rfl) ?_)|(at_builtin;refine zca _ rfl (.tmp 9) (.tmp 10) 31 (by rfl) 54 i0 Tryz.underlying31 hi0 (by rfl) ba bc (by rfl) ?_))
  go_returns;exact HF.out
 .obtain ⟨ca,hcl,hcomp,hcell⟩:=hA.cells (zza _);obtain ⟨cb,hcl2,hcomp2,hcell2⟩:=hB.cells (zza _);obtain ⟨ada,rfl,hcA⟩:=hcell (by omega);obtain ⟨adb,rfl,hcB⟩:=hcell2 (by omega);have hla:=hA.len;have hlb:=hB.len;have hfa:(ca.flatMap ccells).length=n*12:=by have:=Zk ccells 12 (fun _=>rfl) ca;omega
  have hfb:(cb.flatMap ccells).length=n*12:=by have:=Zk ccells 12 (fun _=>rfl) cb;omega
  have hown0:w.ownsRow w.heap.size 54 12 (.slice none 0 0) 0 ([] :List Value):=⟨by simp, .inl ⟨rfl,rfl⟩⟩;have hA0:=hcA w (zzc _ _);have hfin:∀g cap w9,w9.ownsRow w.heap.size 54 12 (.slice (some ⟨g,0,none⟩) (n+n) cap) (n+n) (ca.flatMap ccells++cb.flatMap ccells)->uB w w9->BothPost w LL (.returned (.slice (some ⟨g,0,none⟩) (n+n) cap)) w9:=fun g cap w9 k1 k2=>by
   have hll:LL.length=n+n:=by rw [<-HLL.out,zze, <-hla, <-hlb]
   have hcc:(ca++cb).length=LL.length:=by rw [hll,zze,hcl,hcl2, <-hla, <-hlb]
   rw [<-List.flatMap_append] at k1;refine ⟨⟨some ⟨g,0,none⟩,n+n,cap,rfl,hll.symm, ?_, ?_,by omega,g,0,fun i=>(ca++cb).getD i czero,fun _=>⟨rfl,(k1.lt g rfl).2⟩,fun i hi=>⟨?_, ?_⟩⟩,k2⟩
   .rcases k1.2 with ⟨e,_⟩|⟨_,_,_,e,_,_,h5,_⟩
    .cases e
    .injection e with _ _ e3;rw [e3];exact h5
   .rcases k1.2 with ⟨e,_⟩|⟨_,_,_,e,_,_,_,h5,_⟩
    .cases e
    .injection e with _ _ e3;rw [e3];simpa [maxLen] using h5
   .have hi2:i<(ca++cb).length:=by omega
    have h:=Xt k1 (i:=i) hi2;have he:(ca++cb).getD i czero=(ca++cb)[i] :=by rw [zzb,zzg hi2];rfl
    show CompAt w9 g (0+i*12) ((ca++cb).getD i czero);rw [he,Nat.zero_add];exact ⟨h 0 _ rfl,h 1 _ rfl,h 2 _ rfl,h 3 _ rfl,h 4 _ rfl,h 5 _ rfl,⟨h 6 _ rfl,h 7 _ rfl,h 8 _ rfl,h 9 _ rfl,h 10 _ rfl⟩,h 11 _ rfl⟩
   .have hz:=k2.size;by_cases hia:i<A.length
    .have h:=(hcomp i hia).later_ k2;have e1:(ca++cb).getD i czero=ca.getD i czero:=by simp [List.getD_eq_getElem?_getD,List.getElem?_append_left (show i<ca.length by omega)]
     have e2:LL[i] =A[i] :=by simp only [<-HLL.out];rw [List.getElem_append_left hia]
     show IsComp _ _ _ ((ca++cb).getD i czero);rw [e1,e2];exact h
    .have hib:i - A.length<B.length:=by omega
     have h:=(hcomp2 (i - A.length) hib).later_ k2;have e1:(ca++cb).getD i czero=cb.getD (i - A.length) czero:=by simp [List.getD_eq_getElem?_getD,List.getElem?_append_right (show ca.length<=i by omega),hcl]
     have e2:LL[i] =B[i - A.length] :=by simp only [<-HLL.out];rw [List.getElem_append_right (by omega)]
     show IsComp _ _ _ ((ca++cb).getD i czero);rw [e1,e2];exact h
  have HFIN:=qh hfin;have HCB:=qh hcB;have HFA:=qh hfa;have HFB:=qh hfb;clear hfin hcB hcell hcell2 hcomp hcomp2 hA hB hla hlb hcA hcl hcl2 hfa hfb;go_enter Tryz.func39,Tryz.ntmps39
  go_wp2_with (first|(at_builtin;refine wpList_append_lies _ rfl (.tmp 6) (.tmp 7) 31 (by rfl) w.heap.size 54 i0 _ 12 168 Tryz.underlying31 hi0 hz0 hz1 hz2 rfl (by omega) (.slice none 0 0) 0 ([] :List Value) (by rfl) hown0 ada n ac (ca.flatMap ccells) (by rfl) HFA.out hA0 (zb4 ca) (by omega) (by unfold maxLen;omega) (by omega) (zza _) w.heap.size rfl ?_;intro g cap w9 hown9 hgrow9 hat9 hlt9;rw [Nat.zero_add] at hown9 ⊢;rw [List.nil_append] at hown9;have hb9:uB w w9:=Zi hgrow9 (fun k hk=>by cases hk) (zza _);have hB9:=HCB.out w9 hb9;have HB9:=qh hb9;clear hb9 hgrow9 hat9)|(at_builtin;refine wpList_append_lies _ rfl (.tmp 9) (.tmp 10) 31 (by rfl) w.heap.size 54 i0 _ 12 168 Tryz.underlying31 hi0 hz0 hz1 hz2 rfl (by omega) (.slice (some ⟨g,0,none⟩) n cap) n (ca.flatMap ccells) (by rfl) hown9 adb n bc (cb.flatMap ccells) (by rfl) HFB.out hB9 (zb4 cb) (by omega) (by unfold maxLen;omega) (by omega) (by have:=HB9.out.size;omega) w9.heap.size rfl ?_;intro g2 cap2 w8 hown8 hgrow8 hat8 hlt8;have HF8:=qh (HFIN.out g2 cap2 w8 hown8 (HB9.out.trans (Zi hgrow8 (fun k hk=>(hown9.lt k hk).1) HB9.out.size)));clear hown8 hgrow8 hat8))
  go_returns;exact HF8.out
theorem zmx (w:World) (A B:List Cm) (aa ba:Option Addr) (n ac bc:Nat) (hA:IsComps w w.heap.size A aa n ac) (hB:IsComps w w.heap.size B ba n bc) (hn:n<=200) (hs:sumS (A++B)<=1000000000000) (hT:Tabs w):
 uP 16 #[.slice aa n ac, .slice ba n bc] w (AimPost w (trimP (A++B))):=by
 delta uP;have HB:=qh (zjo w A B aa ba n ac bc hA hB hn);have hl:(A++B).length<=400:=by rw [zze, <-hA.len, <-hB.len];omega
 obtain ⟨LL,hLL⟩:∃LL,A++B=LL:=⟨_,rfl⟩;rw [hLL] at hs hl HB ⊢;have HS:=qh hs;have HTT:=qh hT;have HLN:=qh hl;clear hA hB hs hT hLL hl;go_enter Tryz.func16,Tryz.ntmps16
 go_wp2_with fail;refine HB.out.mono ?_
 rintro e w1 ⟨⟨a,m,c,rfl,hI⟩,hb1⟩;have HTR:=qh (zpt w1 LL a m c hI (by rw [hI.len];have:=HLN.out;omega) HS.out (HTT.out.below hb1));have HB1:=qh hb1;clear hI hb1;go_wp2_with fail;refine HTR.out.mono ?_;rintro e w2 ⟨⟨a2,m2,c2,rfl,hI2⟩,hb2⟩;have HF:Hid (AimPost w (trimP LL) (.returned (.slice a2 m2 c2)) w2):=qh ⟨⟨a2,m2,c2,rfl,hI2.sub (Zc fun k hk _=>⟨by have:=HB1.out.size;have hk':w1.heap.size<=k:=hk;omega,rfl⟩)⟩,HB1.out.trans (hb2.mono HB1.out.size)⟩;clear hI2 hb2;go_wp2_with fail;go_returns;exact HF.out
theorem zef (w:World) (o:Obj):uB w (w.alloc o):=(zzc _ _).alloc (zza _) o
theorem zeh {w:World} {B:Nat} {l:List Cm} {a:Option Addr} {n c:Nat} (h:IsComps w B l a n c):∀c ∈ l,c.Nums:=by
 intro c hc;obtain ⟨j,hj,e⟩:=List.getElem_of_mem hc;obtain ⟨_,_,f,_,h6⟩:=h.at_;obtain ⟨_,hic⟩:=h6 j hj;rw [e] at hic
 cases hic with
 |mk cc p xv hcb hp hxv=>exact ⟨⟨hcb.n0,hcb.n1⟩,V.Num.nums hxv.num⟩
theorem zm8:∀(l:List Ac) (v:V),sumS (aimP v l)<=41*l.length:=by
 intro l
 induction l with
 |nil=>intro v;exact zza _
 | cons a r ih=>
   intro v;rw [aimP,List.length_cons]
   cases h:oneC v a with
   |none=>have:=ih v;dsimp only;omega
   | some c=>
     dsimp only;have h2:=(Jh h).ss;have h3:sumS (c::aimP (doP v c).1 r)=c.s.size+sumS (aimP (doP v c).1 r):=by simp [sumS]
     split
     .have:=ih (doP v c).1;omega
     .have:=ih v;omega
theorem zjt (l:List Cm):sumS l.reverse=sumS l:=by
 induction l with
 |nil=>rfl
 |cons c r ih=>rw [List.reverse_cons,Z5,ih,Y8];simp [sumS];omega
theorem zho:∀(op:List Cm) (v:V) (l:List Cm),OpOk v op->turnsP v op=(l,0)->sumS l<=100000000*op.length:=by
 intro op
 induction op with
 |nil=>intro v l _ h;injection h with h _;subst h;exact zza _
 | cons c r ih=>
   intro v l hok h;obtain ⟨o1,o2,o3,o4,o5⟩:=hok;rw [turnsP] at h;by_cases h1:(turnedP v c).2=0
   .rw [if_pos h1] at h;by_cases h2:(turnsP (doP v c).1 r).2=0
    .rw [if_pos h2] at h;injection h with h3 _;subst h3;have ht:turnedP v c=((turnedP v c).1,0):=Prod.ext rfl h1;have hd:(doP v c).2=0:=by rw [Jm];exact (Js ht).1
     have h4:=ih _ _ (o5 hd) (show turnsP (doP v c).1 r=((turnsP (doP v c).1 r).1,0) from Prod.ext rfl h2);have h5:=(zez ht).1;have h6:∀(x:Cm) (y:List Cm),sumS (x::y)=x.s.size+sumS y:=fun x y=>by simp [sumS]
     rw [h6,List.length_cons];omega
    .rw [if_neg h2] at h;injection h with _ h4;exact absurd h4 h2
   .rw [if_neg h1] at h;injection h with _ h4;exact absurd h4 h1
theorem zlt {v:V} {X:List Cm} (hs:v.sound=true) (hn:v.Nums) (hc:∀c ∈ X,c.Nums) (hl:X.length<=20) (hd:(doAllP v X).2=0) (hok:OpOk v X) (hw:(doAllP v X).1.weight<=100000000):
 (∃L,allP v X=(L,0)/\L.length=X.length/\sumS L<=2000000000/\((∀c ∈ L,c.Nums)->Trm v (X++L) v))∨allP v X=([],60):=by
 unfold allP;rw [if_neg (by omega)];rcases zgx X v hd with h|h
 .have hq:turnsP v X=((turnsP v X).1,0):=Prod.ext rfl h;obtain ⟨_,b2,b3⟩:=zb7 X hs hn hc hq;refine .inl ⟨_,by rw [h],by rw [List.length_reverse];exact b3,by rw [zjt];have:=zho X v _ hok hq;omega,fun hln=> ?_⟩;exact Trm.join ⟨Prod.ext rfl hd,hok,hc⟩ ⟨b2,zgp X v _ hs hn hc hok hw hq,hln⟩
 .exact .inr (by rw [h];rfl)
theorem zev {w W:World} {b:Nat} {y:V} (h:Below w.heap.size w.drew W) (hb:w.heap.size<=b) (d:VC) (x:BC W b [.int .u8 0, .int .i64 0, .string { data:= #[] }, .slice none 0 0, .slice none 0 0]) (hv:IsVal (only (fun k=>b+1<=k) W) W.heap.size y d):BC (((((W.setCell ⟨b,0,none⟩ (.int .u8 d.k)).setCell ⟨b,1,none⟩ (.int .i64 d.n)).setCell ⟨b,2,none⟩ (.string d.s)).setCell ⟨b,3,none⟩ (.slice d.la d.ll d.lc)).setCell ⟨b,4,none⟩ (.slice d.oa d.ol d.oc)) b (vcells d)/\Below w.heap.size w.drew (((((W.setCell ⟨b,0,none⟩ (.int .u8 d.k)).setCell ⟨b,1,none⟩ (.int .i64 d.n)).setCell ⟨b,2,none⟩ (.string d.s)).setCell ⟨b,3,none⟩ (.slice d.la d.ll d.lc)).setCell ⟨b,4,none⟩ (.slice d.oa d.ol d.oc))/\w.heap.size<=b/\IsVal (only (fun k=>w.heap.size<=k) (((((W.setCell ⟨b,0,none⟩ (.int .u8 d.k)).setCell ⟨b,1,none⟩ (.int .i64 d.n)).setCell ⟨b,2,none⟩ (.string d.s)).setCell ⟨b,3,none⟩ (.slice d.la d.ll d.lc)).setCell ⟨b,4,none⟩ (.slice d.oa d.ol d.oc))) (((((W.setCell ⟨b,0,none⟩ (.int .u8 d.k)).setCell ⟨b,1,none⟩ (.int .i64 d.n)).setCell ⟨b,2,none⟩ (.string d.s)).setCell ⟨b,3,none⟩ (.slice d.la d.ll d.lc)).setCell ⟨b,4,none⟩ (.slice d.oa d.ol d.oc)).heap.size y d:=by have st:=Zh W b 0 d;exact ⟨Zx (c0:=vzero) x d,Below.set5' h hb _ _ _ _ _,hb,Zy hv rfl st.size fun k hk hl=>have hk':b+1<=k:=hk;⟨by omega,st.block k hl (by omega)⟩⟩
theorem zih (w:World) (hT:Tabs w) (l:List Tk) (a:Option Addr) (n c:Nat) (hl:IsToks w w.heap.size l a n c) (ax:List Ac) (b:Option Addr) (m k:Nat) (ha:IsActs w w.heap.size ax b m k):
 uP 3 #[.slice a n c, .slice b m k] w fun e w'=>e= .returned (.bool true)/\uB w w':=by
 delta uB uP;have HL:=qh hl;have HAC:=qh ha;have HTT:=qh hT;have HKN:Hid (∀W,uB w W->uP 11 #[] W fun e w'=>e= .returned (.bool true)/\uB W w'):=qh fun W hW=>zno W (hT.below hW);have HHV:=qh (zpf w l a n c hl ax b m k ha);clear hl ha hT;go_enter Tryz.func3,Tryz.ntmps3
 go_wp2_with fail;refine HHV.out.mono ?_
 rintro e w1 ⟨⟨h,rfl⟩,hb1⟩;have HA1:=qh hb1;clear hb1 HHV
 cases h with
 | true=>
   go_wp2_with fail;refine (HKN.out _ HA1.out).mono ?_
   rintro e wk ⟨rfl,hbk⟩;have HAk:=qh (HA1.out.trans (hbk.mono HA1.out.size));clear hbk;go_wp2_with fail;go_returns;exact ⟨rfl,HAk.out⟩
 |false=>
 go_wp2_with fail;refine (HKN.out _ HA1.out).mono ?_
 rintro e w3 ⟨rfl,hb3⟩;have HA3:=qh (HA1.out.trans (hb3.mono HA1.out.size));clear hb3 HKN HA1;go_wp2_with fail;refine (Yz w3 l a n c (HL.out.later_ HA3.out)).mono ?_;rintro e w4 ⟨⟨cv,rfl,hv4⟩,hb4⟩;obtain ⟨V0,hV0⟩:∃V0,(oneP 6 (l.take 60)).1=V0:=⟨_,rfl⟩;have HLT:Hid (V0.weight<=20000/\V0.sound=true):=qh (by rw [<-hV0];exact ⟨(za8 l).2.1,(za8 l).2.2.2.1⟩);rw [hV0] at hv4;obtain ⟨w5,hw5⟩:∃W,w4.alloc (.cells (uV cv) 29)=W:=⟨_,rfl⟩;have hb5:uB w4 w5:=by rw [<-hw5];exact zef w4 _
 have hx5:BC w5 w4.heap.size (vcells cv):=by rw [<-hw5];exact BC.start w4 (uV cv) 29
 have hA5:=HA3.out.trans ((hb4.trans (hb5.mono hb4.size)).mono HA3.out.size);have HV5:Hid (IsVal w5 w5.heap.size V0 cv):=qh ((hv4.sub (Zl _ _ _)).later_ hb5);have HAM:=qh (zkx w5 cv.k cv.n cv.s cv.la cv.ll cv.lc cv.oa cv.ol cv.oc V0 HV5.out HLT.out.1 ax b m k (HAC.out.later_ hA5) (HTT.out.below hA5));obtain ⟨v0,v1,v2,v3,v4⟩:=row5 hx5.at_;have zv:=hx5.lt;have HA5:=qh hA5;have HX5:=qh hx5;clear hb4 hb5 hv4 hV0 HL hA5 hx5 HA3 HAC;go_upto_region 4 with fail
 clear hw5;go_wp2_with fail;refine HAM.out.mono ?_;rintro e w6 ⟨⟨xa,xn,xc,rfl,hx⟩,hb6⟩;have hX6:IsComps w6 w6.heap.size (aimP V0 (ax.take 20)) xa xn xc:=hx.sub (Zl _ _ _);have hl20:(aimP V0 (ax.take 20)).length<=20:=zzl (zfp _ _) (by rw [zzd];omega);obtain ⟨o1,o2⟩:=zld (ax.take 20) V0 HLT.out.2 (by have:=HLT.out.1;have:(ax.take 20).length<=20:=(by rw [zzd];omega);omega);have hd:=zo2 (ax.take 20) V0;have hvn:V0.Nums:=V.Num.nums HV5.out.num;have hback:=zlt HLT.out.2 hvn (zeh hX6) (by omega) hd o1 o2;have hxs:=zm8 (ax.take 20) V0;have hx20:(ax.take 20).length<=20:=by rw [zzd];omega
 obtain ⟨X,hX⟩:∃X,aimP V0 (ax.take 20)=X:=⟨_,rfl⟩;rw [hX] at hX6 hl20 o1 hd hback hxs;have hxn:=hX6.len;have HV6:=qh (HV5.out.later_ hb6);have HA6:=qh (HA5.out.trans (hb6.mono HA5.out.size));obtain ⟨Q,hQ⟩:∃Q,allP V0 X=Q:=⟨_,rfl⟩;have HAL:Hid (uP 14 #[.agg (uV cv), .slice xa xn xc] w6 (AllPost .u16 w6 Q)):=qh (by
  rw [<-hQ];exact zfe w6 cv V0 HV6.out X xa xn xc hX6 (fun _=>o1) (HTT.out.below HA6.out))
 rw [hQ] at hback;have hx6:=HX5.out.keep hb6 HX5.out.lt;clear v0 v1 v2 v3 v4 zv;obtain ⟨v0,v1,v2,v3,v4⟩:=row5 hx6.at_;have zv:=hx6.lt;have HX6:=qh hx6;have HBK:=qh hback;have HXN:=qh hxn;have HL20:=qh hl20;have HXX:=qh hX6;have HXS:=qh (show sumS X<=1000 by omega);clear hx hX6 hl20 o1 o2 hd hvn hback hX hxn hQ hb6 hx6 HAM HX5 HV5 HA5 hxs hx20;go_wp2_with fail;refine HAL.out.mono ?_;rintro e w7 ⟨⟨ya,yn,yc,rfl,hy⟩,hb7⟩;have hx7:=HX6.out.keep hb7 HX6.out.lt;have hyn:=hy.len;have HY7:Hid (IsComps w7 w7.heap.size Q.1 ya yn yc):=qh (hy.sub (Zl _ _ _));have HA7:=qh (HA6.out.trans (hb7.mono HA6.out.size));have HB7:=qh hb7;clear v0 v1 v2 v3 v4 zv;obtain ⟨v0,v1,v2,v3,v4⟩:=row5 hx7.at_;have zv:=hx7.lt;have HX7:=qh hx7;clear hy hb7 hx7 HX6 HAL;rcases HBK.out with ⟨L,rfl,h2,h4,h5⟩|rfl
 .dsimp only at hyn HY7 ⊢;obtain rfl:yn=xn:=by have:=HXN.out;omega
  have hsum:sumS (X++L)<=1000000000000:=by rw [Z5];have:=HXS.out;omega
  have hvn:V0.Nums:=V.Num.nums HV6.out.num;have htr:=zjs (v:=V0) (y:=V0) HLT.out.2 hvn (X++L) [] (by rw [List.nil_append];exact h5 (zeh HY7.out)) (by rw [List.nil_append];exact hsum);have hlen:(trimP (X++L)).length<=200:=by have:=K9 (X++L) [];rw [zze,List.length_nil] at this;have h9:=HL20.out;show ((X++L).foldl ontoP []).length<=200;omega
  have hX7:=HXX.out.later_ HB7.out;obtain ⟨P,hP⟩:∃P,trimP (X++L)=P:=⟨_,rfl⟩;have htr:Trm V0 P V0:=by rw [<-hP];exact htr
  rw [hP] at hlen;have hbD:∀W,Below w7.heap.size w7.drew W->uB w7 W:=fun W hW=>(Zf w7).trans hW;have HJN:Hid (∀W,Below w7.heap.size w7.drew W->uP 16 #[.slice xa yn xc, .slice ya yn yc] W (AimPost W P)):=qh fun W hW=>by
   have:=zmx W X L xa ya yn xc yc (hX7.later_ (hbD W hW)) (HY7.out.later_ (hbD W hW)) (by have:=HL20.out;have:=HXN.out;omega) hsum (HTT.out.below (HA7.out.trans ((hbD W hW).mono HA7.out.size)))
   rwa [hP] at this
  have HV7:=qh (HV6.out.later_ HB7.out);have HDO:Hid (∀(W:World) (a:Option Addr) (m c:Nat),Below w7.heap.size w7.drew W->IsComps W W.heap.size P a m c->uP 15 #[.agg (uV cv), .slice a m c] W (DoPost W (V0,0))):=qh fun W a m c hW hI=>
   zm2 W cv V0 V0 (HV7.out.later_ (hbD W hW)) P a m c hI (by rw [hI.len];exact hlen) htr.ok htr.dn (HTT.out.below (HA7.out.trans ((hbD W hW).mono HA7.out.size)))
  have HFB:Hid (∀W,Below w7.heap.size w7.drew W->W.cell? ⟨w4.heap.size,0,none⟩=some (.int .u8 cv.k)/\W.cell? ⟨w4.heap.size,1,none⟩=some (.int .i64 cv.n)/\W.cell? ⟨w4.heap.size,2,none⟩=some (.string cv.s)/\W.cell? ⟨w4.heap.size,3,none⟩=some (.slice cv.la cv.ll cv.lc)/\W.cell? ⟨w4.heap.size,4,none⟩=some (.slice cv.oa cv.ol cv.oc)):=qh fun W hW=>by have hk:∀b o u,b<w7.heap.size->w7.cell? ⟨b,o,none⟩=some u->W.cell? ⟨b,o,none⟩=some u:=fun b o u hb h=>Zb hW (Zb (Zf w7) h hb) hb;exact ⟨hk _ _ _ zv v0,hk _ _ _ zv v1,hk _ _ _ zv v2,hk _ _ _ zv v3,hk _ _ _ zv v4⟩
  clear h2 h4 h5 hsum hvn htr hlen hX7 hP hbD HBK hyn HXX HY7;go_upto_region 8 with fail
  go_wp2_with fail;refine wp_region_noPanic ?_
  go_region_held_law (fun W=>W.cell? ⟨w4.heap.size,0,none⟩=some (.int .u8 cv.k)/\W.cell? ⟨w4.heap.size,1,none⟩=some (.int .i64 cv.n)/\W.cell? ⟨w4.heap.size,2,none⟩=some (.string cv.s)/\W.cell? ⟨w4.heap.size,3,none⟩=some (.slice cv.la cv.ll cv.lc)/\W.cell? ⟨w4.heap.size,4,none⟩=some (.slice cv.oa cv.ol cv.oc))
   ((refine HFB.out _ ?_;(first|(with_reducible exact bl5)|(with_reducible exact bl4)|(with_reducible exact zzc _ _)|(with_reducible exact Zo _ _)|(with_reducible exact Below.alloc bl4 bz4 _)|(with_reducible exact Below.alloc bl5 bz5 _)|(with_reducible exact Below.set5' bl5 bzb _ _ _ _ _)|(with_reducible exact Below.set5' (Below.alloc bl5 bz5 _) bz5 _ _ _ _ _))))
   (first
    |(go_at_call 16;(with_reducible refine (HJN.out _ (zzc _ _)).mono ?_);rintro e k4 ⟨⟨pa,pm,pc,rfl,hP4⟩,hk4⟩;have HP4:=qh (hP4.sub (Zl _ _ _));clear hP4;have bl4:Below w7.heap.size w7.drew k4:=hk4;have bz4:w7.heap.size<=k4.heap.size:=hk4.size;clear hk4)
    |(go_at_call 16;(with_reducible refine (HJN.out _ (Zo _ _)).mono ?_);rintro e k4 ⟨⟨pa,pm,pc,rfl,hP4⟩,hk4⟩;have HP4:=qh (hP4.sub (Zl _ _ _));clear hP4;have bl4:Below w7.heap.size w7.drew k4:=(Zo _ _).trans (hk4.mono (by simp));have bz4:w7.heap.size<=k4.heap.size:=bl4.size;have bzp:w7.heap.size+1<=k4.heap.size:=(by have:=hk4.size;simpa using this);have XB:=Xk hk4;clear hk4)
    |(go_at_call 15;(with_reducible refine (HDO.out _ _ _ _ bl4 HP4.out).mono ?_);rintro e k5 ⟨⟨q,rfl,hI5⟩,hk5⟩;have XB5:=XB.keep hk5 XB.lt;have bzb:=zza w7.heap.size;have HI5:=qh (hI5.sub (Zc (S':=fun k=>w7.heap.size+1<=k) fun k hk _=>⟨zzl bzp hk,rfl⟩));clear hI5;have bl5:Below w7.heap.size w7.drew k5:=bl4.trans (hk5.mono bz4);have bz5:w7.heap.size<=k5.heap.size:=bl5.size;obtain ⟨xd0,xd1,xd2,xd3,xd4⟩:=row5 XB5.at_;have xgd:=XB5.fr;have xld:=XB5.lt;clear hk5)
    |(go_at_call 15;(with_reducible refine (HDO.out _ _ _ _ bl4 HP4.out).mono ?_);rintro e k5 ⟨⟨q,rfl,hI5⟩,hk5⟩;have HI5:=qh (hI5.sub (Zc (S':=fun k=>w7.heap.size<=k) fun k hk _=>⟨zzl bz4 hk,rfl⟩));clear hI5;have bl5:Below w7.heap.size w7.drew k5:=bl4.trans (hk5.mono bz4);have bz5:w7.heap.size<=k5.heap.size:=bl5.size;clear hk5)
    |(go_at_call 15;(with_reducible refine (HDO.out _ _ _ _ (Below.alloc bl4 bz4 _) (HP4.out.later_ (zef k4 _))).mono ?_);rintro e k5 ⟨⟨q,rfl,hI5⟩,hk5⟩;have XB5:=(BC.start k4 (uU 0 0 { data:= #[] } none 0 0 none 0 0) 29).keep hk5 (by simp);have bzb:=bz4;have HI5:=qh (hI5.sub (Zc (S':=fun k=>k4.heap.size+1<=k) fun k hk _=>⟨(by have:=hk;simpa using this),rfl⟩));clear hI5;have bl5:Below w7.heap.size w7.drew k5:=(Below.alloc bl4 bz4 _).trans (hk5.mono (by simp;omega));have bz5:w7.heap.size<=k5.heap.size:=bl5.size;obtain ⟨xd0,xd1,xd2,xd3,xd4⟩:=row5 XB5.at_;have xgd:=XB5.fr;have xld:=XB5.lt;clear hk5))
  all_goals
   (first
    |(with_reducible refine Zq (P:=fun W=>BC W k5.heap.size (vcells q)/\Below w7.heap.size w7.drew W/\w7.heap.size<=k5.heap.size/\IsVal (only (fun b=>w7.heap.size<=b) W) W.heap.size V0 q) (zbo bl5 bz5 q _ HI5.out) ?_)
    |(with_reducible refine Zq (P:=fun W=>BC W w7.heap.size (vcells q)/\Below w7.heap.size w7.drew W/\w7.heap.size<=w7.heap.size/\IsVal (only (fun b=>w7.heap.size<=b) W) W.heap.size V0 q) (zev bl5 bzb q XB5 HI5.out) ?_)
    |(with_reducible refine Zq (P:=fun W=>BC W k4.heap.size (vcells q)/\Below w7.heap.size w7.drew W/\w7.heap.size<=k4.heap.size/\IsVal (only (fun b=>w7.heap.size<=b) W) W.heap.size V0 q) (zev bl5 bzb q XB5 HI5.out) ?_))
   rintro W ⟨XF,hbW,hxb,hI⟩;have hbW0:=(Zf w7).trans hbW;have hv9:=HX7.out.keep hbW0 zv;have HSM:Hid (uP 17 #[.agg (uV q), .agg (uV cv)] W fun e w'=>e= .returned (.bool true)/\uB W w'):=qh (by
    have:=zcc V0 V0 W q cv (hI.sub (Zl _ _ _)) (HV7.out.later_ hbW0);rw [Kc rfl] at this;exact this)
   have HA9:=qh (HA7.out.trans (hbW0.mono HA7.out.size));clear v0 v1 v2 v3 v4 zv bl5 bl4;obtain ⟨v0,v1,v2,v3,v4⟩:=row5 hv9.at_;obtain ⟨q0,q1,q2,q3,q4⟩:=row5 XF.at_;have zv:=hv9.lt;have zq:=XF.lt;clear hbW hbW0 hv9 XF hI;go_wp2_with fail;refine HSM.out.mono ?_;rintro e w14 ⟨rfl,hb14⟩;have HA14:=qh (HA9.out.trans (hb14.mono HA9.out.size));clear hb14;go_wp2_with fail;go_returns;exact ⟨rfl,HA14.out⟩
 .clear HBK hyn;go_wp2_with fail;go_returns;exact ⟨rfl,HA7.out⟩
end Go.Proofs.YtbgheehjfnoiiaaGreatDoor
