/-
  Contracts of the functions that the law reaches: conciliatorlaw06.known: the chapter's.
-/
import Derived.Test.YtfoahkbnheijcaaDoorCq37
import Derived.Test.YtfoahkbnheijcaaDoorCq38
namespace Go.Proofs.YtfoahkbnheijcaaDoor
open Go.RowKit
set_option maxHeartbeats 4000000
def kA:ByteArray:= { data:= #[97] }
def kB:ByteArray:= { data:= #[98] }
def kZ:ByteArray:= { data:= #[122] }
def kvI (n:Int):V:= .mk 2 n .empty [] []
def kvV:V:= .mk 5 0 .empty [] [(kA,kvI 1)]
theorem Ki (n:Int):(kvI n).sound=true:=Zs.2 ⟨by simp [plainB,ByteArray.toList_eq],by rfl,(fun v h=>by cases h),(fun f h=>by cases h)⟩
theorem zaf:Lib.validD kA.data.toList=true:=Qt (fun b h=>by simp [kA] at h;subst h;decide)
theorem zjm:Lib.validD kB.data.toList=true:=Qt (fun b h=>by simp [kB] at h;subst h;decide)
theorem zk0:Lib.validD kZ.data.toList=true:=Qt (fun b h=>by simp [kZ] at h;subst h;decide)
theorem zbo:kvV.sound=true:=Zs.2 ⟨by simp [plainB,ByteArray.toList_eq],by rfl,(fun v h=>by cases h),(fun f h=>by
 rw [List.mem_singleton] at h;subst h;exact ⟨zaf,Ki 1⟩)⟩
theorem Qs:kvV.weight=3:=by
 have:kA.size=1:=rfl
 simp [kvV,kvI,V.weight,weightL,weightO,weightF,this]
theorem zbr:Op.bytesLess kA.toList kB.toList=true:=by rw [ByteArray.toList_eq,ByteArray.toList_eq];rfl
theorem zgh:Op.bytesLess kA.toList kZ.toList=true:=by rw [ByteArray.toList_eq,ByteArray.toList_eq];rfl
theorem zlm:Op.bytesLess kA.toList kA.toList=false:=by rw [ByteArray.toList_eq];rfl
theorem Ks (key:ByteArray) (h:Op.bytesLess kA.toList key.toList=true):fieldK [(kA,kvI 1)] key=1/\fieldIs [(kA,kvI 1)] key=false:=by
 have h1:fieldK [(kA,kvI 1)] key=1:=by unfold fieldK;rw [List.takeWhile_cons,if_pos h];rfl
 exact ⟨h1,by unfold fieldIs;rw [h1];rfl⟩
theorem zal:fieldK [(kA,kvI 1)] kA=0/\fieldIs [(kA,kvI 1)] kA=true:=by
 have h1:fieldK [(kA,kvI 1)] kA=0:=by unfold fieldK;rw [List.takeWhile_cons,if_neg (by rw [zlm];simp)];rfl
 exact ⟨h1,by unfold fieldIs;rw [h1];simp⟩
def kc1:Cm:=⟨2, [],kB,0,0,0,kvI 2, .empty⟩
def kc2:Cm:=⟨1, [⟨false,0,kA⟩], .empty,0,0,2,V.none, .empty⟩
def kc3:Cm:=⟨3, [],kZ,0,0,0,V.none, .empty⟩
theorem zki:cmSound kc1=true:=Yu rfl rfl rfl zjm rfl (by decide) (by decide) (fun e=>absurd e (by decide)) (fun e=>absurd e (by decide)) (Ki 2) (by simp [kc1,kvI,V.deep,deepL,deepO]) (by simp [kc1,kvI,V.weight,weightL,weightO])
theorem zlg:cmSound kc2=true:=Yu rfl rfl (by simp [kc2,pathSound,St.ok,zaf]) rfl rfl (by decide) (by decide) (fun e=>absurd e (by decide)) (fun e=>absurd e (by decide)) Xu (by have:=Jk;simp [kc2];omega) (by have:=Y6;simp [kc2];omega)
theorem zgi:cmSound kc3=true:=Yu rfl rfl rfl zk0 rfl (by decide) (by decide) (fun e=>absurd e (by decide)) (fun e=>absurd e (by decide)) Xu (by have:=Jk;simp [kc3];omega) (by have:=Y6;simp [kc3];omega)
theorem kdo1:doP kvV kc1=(.mk 5 0 .empty [] [(kA,kvI 1),(kB,kvI 2)],0):=by
 have hc:checkP kvV kc1=0:=Yy zki (by rfl) (by simp [kindsP,kc1,kvV,V.kd])
 rw [Yc hc (x:=kvV) rfl]
 have hf:fieldsDo [(kA,kvI 1)] kB (kvI 2) false= [(kA,kvI 1),(kB,kvI 2)] :=by
  rw [Jo (by rfl),newF,if_neg (by simp),withF,(Ks kB zbr).1,(Ks kB zbr).2];rfl
 have hd:doneP kvV kc1= .mk 5 0 .empty [] [(kA,kvI 1),(kB,kvI 2)] :=by
  rw [doneP,if_neg (by decide),if_pos (.inl rfl)]
  show V.mk 5 0 .empty [] (fieldsDo [(kA,kvI 1)] kB (kvI 2) ((2:Int)==3))=_
  rw [show ((2:Int)==3)=false from rfl,hf]
 rw [hd];rfl
theorem zc5:stepP kvV ⟨false,0,kA⟩=some (kvI 1,0):=by
 unfold stepP
 rw [if_neg (by simp)]
 dsimp only
 have e:kvV.os= [(kA,kvI 1)] :=rfl
 rw [e,zal.1,zal.2,if_pos ⟨rfl,rfl⟩];rfl
theorem kdo2:doP kvV kc2=(.mk 5 0 .empty [] [(kA,kvI 3)],0):=by
 have hg:getP kvV kc2.path=some (kvI 1):=by
  show getP kvV [⟨false,0,kA⟩] =_
  unfold getP;rw [zc5];rfl
 have hc:checkP kvV kc2=0:=Yy zlg hg (by simp [kindsP,kc2,kvI,V.kd])
 rw [Yc hc hg]
 have hd:doneP (kvI 1) kc2=kvI 3:=by
  rw [doneP,if_pos (show kc2.k=1 from rfl)]
  have:wrap64 (1+2)=3:=by unfold wrap64;omega
  show V.mk 2 (wrap64 (1+2)) .empty [] [] = .mk 2 3 .empty [] []
  rw [this]
 rw [hd]
 show doneQ (putP kvV [⟨false,0,kA⟩] (kvI 3))=_
 unfold putP;rw [zc5];rfl
theorem kck3:checkP kvV kc3=33:=by
 unfold checkP
 rw [zgi,if_neg (by simp)]
 show kindsP kvV 3 0 0 0 kZ=33
 rw [kindsP,if_neg (by decide),if_pos (.inr rfl),if_neg (by simp [kvV,V.kd]),if_pos ⟨rfl,(Ks kZ zgh).2⟩]
theorem Ke (w:World) (B:Nat) (k n:Int) (hk:0<=k/\k<256) (hn: -9223372036854775808<=n/\n<=9223372036854775807):IsVal w B (.mk k n .empty [] []) ⟨k,n, .empty,none,0,0,none,0,0⟩:=
 Yg hk.1 hk.2 hn.1 hn.2 (by decide) ⟨rfl,by decide,by decide,by decide,0,0,fun _=>vzero,fun h=>absurd h (by decide),fun i h=>absurd h (by simp)⟩ (Q7 w B)
theorem Kb (W:World) (b:Nat) (h:BC W b (fcells (kA,⟨2,1, .empty,none,0,0,none,0,0⟩))):IsVal W W.heap.size kvV ⟨5,0, .empty,none,0,0,some ⟨b,0,none⟩,1,1⟩:=
 Yg (by decide) (by decide) (by decide) (by decide) (by decide) ⟨rfl,by decide,by decide,by decide,0,0,fun _=>vzero,fun h=>absurd h (by decide),fun i h=>absurd h (by simp)⟩ ⟨rfl,by decide,by decide,by decide,b,0,fun _=>⟨2,1, .empty,none,0,0,none,0,0⟩,fun _=>⟨rfl,h.lt⟩,fun i hi=>by
  have h0:i=0:=by simpa using hi
  subst h0
  exact ⟨h.at_ 0 _ rfl,(show kA.size<=140737488355328 by decide),⟨h.at_ 1 _ rfl,h.at_ 2 _ rfl,h.at_ 3 _ rfl,h.at_ 4 _ rfl,h.at_ 5 _ rfl⟩,Ke W _ 2 1 (by decide) (by decide)⟩⟩
theorem zlj (w:World) (hT:Tabs w) (b:Nat) (hb:BC w b (fcells (kA,⟨2,1, .empty,none,0,0,none,0,0⟩))):Calls Tryd.prog 12 #[.agg #[.int .u8 5, .int .i64 0, .string { data:= #[] }, .slice none 0 0, .slice (some ⟨b,0,none⟩) 1 1], .agg #[.int .u8 2, .slice none 0 0, .string { data:= #[98] }, .int .i64 0, .int .i64 0, .int .i64 0, .int .u8 2, .int .i64 2, .string { data:= #[] }, .slice none 0 0, .slice none 0 0, .string { data:= #[] }]] w fun e w'=>(∃c:VC,e= .returned (.tuple #[.agg #[.int .u8 c.k, .int .i64 c.n, .string c.s, .slice c.la c.ll c.lc, .slice c.oa c.ol c.oc], .int .u16 0])/\c.ol=2/\∃b2 o2,c.oa=some ⟨b2,o2,none⟩/\b2<w'.heap.size/\w'.cell? ⟨b2,o2+6,none⟩=some (.string { data:= #[98] }))/\Below w.heap.size w w':=by
 refine (X2 w 5 0 .empty none 0 0 (some ⟨b,0,none⟩) 1 1 kvV (Kb w b hb) (by rw [Qs];omega) [] (kvI 2) ⟨2,none,0,0,kB,0,0,0,⟨2,2, .empty,none,0,0,none,0,0⟩, .empty⟩ ⟨by dsimp only;omega,by dsimp only;omega,by dsimp only;omega,by dsimp only;omega,by dsimp only;omega,by dsimp only;omega,by dsimp only;omega,by dsimp only;omega,show kB.size<=140737488355328 by decide,show ByteArray.empty.size<=140737488355328 by decide⟩ (IsSteps.nil _ _) (Ke w _ 2 2 (by decide) (by decide)) (by simp [kvI,V.weight,weightL,weightO]) (fun y hy=>by have h1:=Z7 _ hy;have h2:=y.str_weight.1;have h3:=Qs;have h4:ByteArray.empty.size=0:=rfl;dsimp only;omega) zbo hT).mono ?_
 rintro e w' ⟨⟨c,rfl,hI⟩,hb'⟩
 have hd:=kdo1
 unfold kc1 at hd
 rw [hd] at hI ⊢
 obtain ⟨_,_,_,_,_,ho⟩:=hI.parts
 have hl:c.ol=2:=ho.len
 obtain ⟨b2,o2,f,hp,ha,hlt,hk,_⟩:=ho.get (k:=1) (by omega)
 exact ⟨⟨c,rfl,hl,b2,o2,ha,hlt,(Zy hk).2⟩,hb'⟩
theorem zjr (w:World) (hT:Tabs w) (b:Nat) (hb:BC w b (fcells (kA,⟨2,1, .empty,none,0,0,none,0,0⟩))) (p:Nat) (hp:BC w p [.bool false, .int .i64 0, .string { data:= #[97] }]):Calls Tryd.prog 12 #[.agg #[.int .u8 5, .int .i64 0, .string { data:= #[] }, .slice none 0 0, .slice (some ⟨b,0,none⟩) 1 1], .agg #[.int .u8 1, .slice (some ⟨p,0,none⟩) 1 1, .string { data:= #[] }, .int .i64 0, .int .i64 0, .int .i64 2, .int .u8 0, .int .i64 0, .string { data:= #[] }, .slice none 0 0, .slice none 0 0, .string { data:= #[] }]] w fun e w'=>(∃c:VC,e= .returned (.tuple #[.agg #[.int .u8 c.k, .int .i64 c.n, .string c.s, .slice c.la c.ll c.lc, .slice c.oa c.ol c.oc], .int .u16 0])/\0<c.ol/\∃b2 o2,c.oa=some ⟨b2,o2,none⟩/\b2<w'.heap.size/\w'.cell? ⟨b2,o2+2,none⟩=some (.int .i64 3))/\Below w.heap.size w w':=by
 refine (X2 w 5 0 .empty none 0 0 (some ⟨b,0,none⟩) 1 1 kvV (Kb w b hb) (by rw [Qs];omega) [⟨false,0,kA⟩] V.none ⟨1,some ⟨p,0,none⟩,1,1, .empty,0,0,2,⟨0,0, .empty,none,0,0,none,0,0⟩, .empty⟩ ⟨by dsimp only;omega,by dsimp only;omega,by dsimp only;omega,by dsimp only;omega,by dsimp only;omega,by dsimp only;omega,by dsimp only;omega,by dsimp only;omega,show ByteArray.empty.size<=140737488355328 by decide,show ByteArray.empty.size<=140737488355328 by decide⟩ ⟨rfl,by dsimp only;omega,by dsimp only;omega,by dsimp only;omega,p,0,fun _=>⟨rfl,hp.lt⟩,fun i hi=>by
  have h0:i=0:=by simpa using hi
  subst h0
  exact ⟨⟨hp.at_ 0 _ rfl,hp.at_ 1 _ rfl,hp.at_ 2 _ rfl⟩,⟨(show (-9223372036854775808:Int)<=0 by decide),(show (0:Int)<=9223372036854775807 by decide),(show kA.size<=140737488355328 by decide)⟩⟩⟩ (Zr _ _) (by have:=Y6;omega) (fun y hy=>by have h1:=Z7 _ hy;have h2:=y.str_weight.1;have h3:=Qs;have h4:ByteArray.empty.size=0:=rfl;dsimp only;omega) zbo hT).mono ?_
 rintro e w' ⟨⟨c,rfl,hI⟩,hb'⟩
 have hd:=kdo2
 unfold kc2 at hd
 rw [hd] at hI ⊢
 obtain ⟨_,_,_,_,_,ho⟩:=hI.parts
 have hl:c.ol=1:=ho.len
 obtain ⟨b2,o2,f,hp,ha,hlt,_,_,hv,hi3⟩:=ho.get (k:=0) (by omega)
 have h1:=(Zy hv.c1).2
 obtain ⟨_,e2,_⟩:=hi3.parts
 have e2:(3:Int)=f.n:=e2
 rw [<-e2] at h1
 exact ⟨⟨c,rfl,by omega,b2,o2,ha,hlt,h1⟩,hb'⟩
theorem zh4 (w:World) (hT:Tabs w) (b:Nat) (hb:BC w b (fcells (kA,⟨2,1, .empty,none,0,0,none,0,0⟩))):Calls Tryd.prog 13 #[.agg #[.int .u8 5, .int .i64 0, .string { data:= #[] }, .slice none 0 0, .slice (some ⟨b,0,none⟩) 1 1], .agg #[.int .u8 3, .slice none 0 0, .string { data:= #[122] }, .int .i64 0, .int .i64 0, .int .i64 0, .int .u8 0, .int .i64 0, .string { data:= #[] }, .slice none 0 0, .slice none 0 0, .string { data:= #[] }]] w fun e w'=>e= .returned (.int .u16 33)/\Below w.heap.size w w':=by
 have:=Xc w 5 0 .empty none 0 0 (some ⟨b,0,none⟩) 1 1 kvV (Kb w b hb) (by rw [Qs];omega) [] V.none ⟨3,none,0,0,kZ,0,0,0,⟨0,0, .empty,none,0,0,none,0,0⟩, .empty⟩ ⟨by dsimp only;omega,by dsimp only;omega,by dsimp only;omega,by dsimp only;omega,by dsimp only;omega,by dsimp only;omega,by dsimp only;omega,by dsimp only;omega,show kZ.size<=140737488355328 by decide,show ByteArray.empty.size<=140737488355328 by decide⟩ (IsSteps.nil _ _) (Zr _ _) (by have:=Y6;omega) hT
 have hd:=kck3
 unfold kc3 at hd
 rw [hd] at this
 exact this
set_option maxRecDepth 100000 in
theorem Jq (w:World) (hT:Tabs w):Calls Tryd.prog 9 #[] w fun e w'=>e= .returned (.bool true)/\Below w.heap.size w w':=by
 have HT:=qh hT
 clear hT
 go_enter Tryd.func9,Tryd.ntmps9
 go_wp2_with fail
 have hbf:BC ((w.alloc (.cells #[.string { data:= #[97] }, .int .u8 2, .int .i64 1, .string { data:= #[] }, .slice none 0 0, .slice none 0 0] 68)).alloc (.cells #[.int .u8 5, .int .i64 0, .string { data:= #[] }, .slice none 0 0, .slice (some ⟨w.heap.size,0,none⟩) 1 1] 31)) w.heap.size (fcells (kA,⟨2,1, .empty,none,0,0,none,0,0⟩)):=(BC.start w #[.string { data:= #[97] }, .int .u8 2, .int .i64 1, .string { data:= #[] }, .slice none 0 0, .slice none 0 0] 68).keep ((Below.refl _ _).alloc (Nat.le_refl _) _) (by simp)
 have hbv:BC ((w.alloc (.cells #[.string { data:= #[97] }, .int .u8 2, .int .i64 1, .string { data:= #[] }, .slice none 0 0, .slice none 0 0] 68)).alloc (.cells #[.int .u8 5, .int .i64 0, .string { data:= #[] }, .slice none 0 0, .slice (some ⟨w.heap.size,0,none⟩) 1 1] 31)) (w.heap.size+1) [.int .u8 5, .int .i64 0, .string { data:= #[] }, .slice none 0 0, .slice (some ⟨w.heap.size,0,none⟩) 1 1] :=by
  have:=BC.start (w.alloc (.cells #[.string { data:= #[97] }, .int .u8 2, .int .i64 1, .string { data:= #[] }, .slice none 0 0, .slice none 0 0] 68)) #[.int .u8 5, .int .i64 0, .string { data:= #[] }, .slice none 0 0, .slice (some ⟨w.heap.size,0,none⟩) 1 1] 31
  rw [World.size_alloc] at this;exact this
 have hal:Below w.heap.size w ((w.alloc (.cells #[.string { data:= #[97] }, .int .u8 2, .int .i64 1, .string { data:= #[] }, .slice none 0 0, .slice none 0 0] 68)).alloc (.cells #[.int .u8 5, .int .i64 0, .string { data:= #[] }, .slice none 0 0, .slice (some ⟨w.heap.size,0,none⟩) 1 1] 31)):=((Below.refl _ _).alloc (Nat.le_refl _) _).alloc (by simp) _
 obtain ⟨wa,hwa⟩:∃wa,(w.alloc (.cells #[.string { data:= #[97] }, .int .u8 2, .int .i64 1, .string { data:= #[] }, .slice none 0 0, .slice none 0 0] 68)).alloc (.cells #[.int .u8 5, .int .i64 0, .string { data:= #[] }, .slice none 0 0, .slice (some ⟨w.heap.size,0,none⟩) 1 1] 31)=wa:=⟨_,rfl⟩
 rw [hwa] at hbf hbv hal ⊢
 have hza:wa.heap.size=w.heap.size+2:=by rw [<-hwa];simp
 clear hwa
 refine (zlj wa (HT.out.below hal) w.heap.size hbf).mono ?_
 rintro e w1 ⟨⟨c,rfl,hl,b2,o2,ha,hlt,hk⟩,hb1⟩
 obtain ⟨ck,cn,cs,cla,cll,clc,coa,col,coc⟩:=c
 dsimp only at hl ha ⊢
 subst hl ha
 have hbf1:=hbf.keep hb1 hbf.lt
 have hbv1:=hbv.keep hb1 hbv.lt
 have hal1:=hal.trans (hb1.mono hal.size)
 have hz1:=hb1.size
 have v0:=hbv1.at_ 0 _ rfl;have v1:=hbv1.at_ 1 _ rfl;have v2:=hbv1.at_ 2 _ rfl;have v3:=hbv1.at_ 3 _ rfl;have v4:=hbv1.at_ 4 _ rfl
 have zv:=hbv1.lt
 have HF1:=qh hbf1;have HV1:=qh hbv1;have HA1:=qh hal1;have HK:=qh hk;have HLT:=qh hlt
 clear hbf hbv hal hb1 hbf1 hbv1 hal1 hk hlt hza hz1
 go_wp2_with fail
 have hn2:Below w1.heap.size w1 ((w1.alloc (.cells #[.int .u8 ck, .int .i64 cn, .string cs, .slice cla cll clc, .slice (some ⟨b2,o2,none⟩) 2 coc] 31)).alloc (.cells #[.bool false, .int .i64 0, .string { data:= #[97] }] 57)):=((Below.refl _ _).alloc (Nat.le_refl _) _).alloc (by simp) _
 have hbr:=(BC.start w1 #[.int .u8 ck, .int .i64 cn, .string cs, .slice cla cll clc, .slice (some ⟨b2,o2,none⟩) 2 coc] 31).keep ((Below.refl _ _).alloc (Nat.le_refl _) (.cells #[.bool false, .int .i64 0, .string { data:= #[97] }] 57)) (by simp)
 have hbp:=BC.start (w1.alloc (.cells #[.int .u8 ck, .int .i64 cn, .string cs, .slice cla cll clc, .slice (some ⟨b2,o2,none⟩) 2 coc] 31)) #[.bool false, .int .i64 0, .string { data:= #[97] }] 57
 rw [World.size_alloc] at hbp
 obtain ⟨wb,hwb⟩:∃wb,((w1.alloc (.cells #[.int .u8 ck, .int .i64 cn, .string cs, .slice cla cll clc, .slice (some ⟨b2,o2,none⟩) 2 coc] 31)).alloc (.cells #[.bool false, .int .i64 0, .string { data:= #[97] }] 57))=wb:=⟨_,rfl⟩
 rw [hwb] at hn2 hbr hbp ⊢
 clear hwb
 have halb:=HA1.out.trans (hn2.mono HA1.out.size)
 refine (zjr wb (HT.out.below halb) w.heap.size (HF1.out.keep hn2 HF1.out.lt) (w1.heap.size+1) hbp).mono ?_
 rintro e w3 ⟨⟨d,rfl,hdl,b3,o3,hda,hdt,hdk⟩,hb3⟩
 obtain ⟨dk,dn,ds,dla,dll,dlc,doa,dol,doc⟩:=d
 dsimp only at hdl hda ⊢
 subst hda
 have hn3:=hn2.trans (hb3.mono hn2.size)
 have hv3:=HV1.out.keep hn3 HV1.out.lt
 have hf3:=HF1.out.keep hn3 HF1.out.lt
 have hr3:=hbr.keep hb3 hbr.lt
 have hk3:=Zb hn3 HK.out HLT.out
 have hal3:=halb.trans (hb3.mono halb.size)
 have hdn:¬(dol:Int)<=0:=by omega
 have hdn2:(0:Int)<(dol:Int):=by omega
 have hdn3:¬dol=0:=by omega
 clear v0 v1 v2 v3 v4 zv
 have v0:=hv3.at_ 0 _ rfl;have v1:=hv3.at_ 1 _ rfl;have v2:=hv3.at_ 2 _ rfl;have v3:=hv3.at_ 3 _ rfl;have v4:=hv3.at_ 4 _ rfl
 have r4:=hr3.at_ 4 _ rfl
 have zv:=hv3.lt;have zr:=hr3.lt
 have HF3:=qh hf3;have HA3:=qh hal3
 have hz3:b2<w3.heap.size:=Nat.lt_of_lt_of_le HLT.out hn3.size
 have hdk2:w3.cell? ⟨b3,o3+1+1,none⟩=some (.int .i64 3):=hdk
 clear hn2 hbr hbp halb hb3 hn3 hv3 hf3 hr3 hal3
 have HCK:Hid (∀W,Below w3.heap.size w3 W->Calls Tryd.prog 13 #[.agg #[.int .u8 5, .int .i64 0, .string { data:= #[] }, .slice none 0 0, .slice (some ⟨w.heap.size,0,none⟩) 1 1], .agg #[.int .u8 3, .slice none 0 0, .string { data:= #[122] }, .int .i64 0, .int .i64 0, .int .i64 0, .int .u8 0, .int .i64 0, .string { data:= #[] }, .slice none 0 0, .slice none 0 0, .string { data:= #[] }]] W fun e w'=>e= .returned (.int .u16 33)/\Below W.heap.size W w'):=qh fun W hW=>zh4 W ((HT.out.below HA3.out).below hW) w.heap.size (HF3.out.keep hW HF3.out.lt)
 go_wp2_with (go_at_call 13;(with_reducible refine (HCK.out _ ((Below.refl _ _).alloc (Nat.le_refl _) _)).mono ?_);rintro e w4 ⟨rfl,hb4⟩;have HB4:=qh hb4;clear hb4)
 all_goals (
  go_returns
  exact ⟨rfl,HA3.out.trans ((((Below.refl w3.heap.size w3).alloc (Nat.le_refl _) _).trans (HB4.out.mono (by simp))).mono HA3.out.size)⟩)
end Go.Proofs.YtfoahkbnheijcaaDoor
