/-
  Contracts of the functions that the law reaches: CompAdds, of any numbers. CompAdds: for.
-/
import Derived.Test.YtfoahkbnheijcaaDoorCq39
import Derived.Test.YtfoahkbnheijcaaDoorRows
import Derived.Test.YtfoahkbnheijcaaDoorCards
import Derived.Test.YtfoahkbnheijcaaDoorTie
import Derived.PinnedBridge
import Derived.Lib.LaidIn
import Derived.Lib.LaidU8T
import Derived.Deep.DeepHandedRow
import Derived.Deep.DeepWitnessRowRef
import Derived.SevenTiedAt
namespace Go.Proofs.YtfoahkbnheijcaaDoor
open Go.RowKit
set_option maxHeartbeats 4000000
def vaV (n:Int):V:= .mk 4 0 .empty [kvI n] []
def caC (m:Int):Cm:=⟨1, [⟨true,0, .empty⟩], .empty,0,0,m,V.none, .empty⟩
theorem ze1 (n:Int):(vaV n).sound=true:=Zs.2 ⟨by simp [plainB,ByteArray.toList_eq],by rfl,(fun v h=>by rw [List.mem_singleton] at h;subst h;exact Ki n),(fun f h=>by cases h)⟩
theorem zbn (n:Int):(vaV n).weight=2:=by simp [vaV,kvI,V.weight,weightL,weightO]
theorem zkr (m:Int):cmSound (caC m)=true:=Yu rfl rfl (by simp [caC,pathSound,St.ok,ByteArray.toList_eq]) rfl rfl (by show (0:Int)<=0;decide) (by show (0:Int)<=0;decide) (fun e=>absurd e (by show ¬(1:Int)=8;decide)) (fun e=>absurd e (by show ¬(1:Int)=9;decide)) Xu (by have:=Jk;simp [caC];omega) (by have:=Y6;simp [caC];omega)
theorem zbz (n:Int):stepP (vaV n) ⟨true,0, .empty⟩=some (kvI n,0):=by
 unfold stepP
 rw [if_pos rfl,if_pos ⟨rfl,by show (0:Int)<=0;decide,by show (0:Int)<(1:Nat);decide⟩]
 rfl
theorem ado (n m:Int):doP (vaV n) (caC m)=(vaV (wrap64 (n+m)),0):=by
 have hg:getP (vaV n) (caC m).path=some (kvI n):=by
  show getP (vaV n) [⟨true,0, .empty⟩] =_
  unfold getP;rw [zbz];rfl
 have hc:checkP (vaV n) (caC m)=0:=Yy (zkr m) hg (by simp [kindsP,caC,kvI,V.kd])
 rw [Yc hc hg]
 have hd:doneP (kvI n) (caC m)=kvI (wrap64 (n+m)):=by
  rw [doneP,if_pos (show (caC m).k=1 from rfl)];rfl
 rw [hd]
 show doneQ (putP (vaV n) [⟨true,0, .empty⟩] (kvI (wrap64 (n+m))))=_
 unfold putP;rw [zbz];rfl
theorem ze0 {n m:Int} (hn: -9223372036854775808<=n/\n<=9223372036854775807):wrap64 (wrap64 (n+m)+wrap64 (-m))=n:=by unfold wrap64;omega
theorem zic (W:World) (b:Nat) (n:Int) (hn: -9223372036854775808<=n/\n<=9223372036854775807) (h:BC W b (vcells ⟨2,n, .empty,none,0,0,none,0,0⟩)):IsVal W W.heap.size (vaV n) ⟨4,0, .empty,some ⟨b,0,none⟩,1,1,none,0,0⟩:=
 Yg (by decide) (by decide) (by decide) (by decide) (by decide) ⟨rfl,by decide,by decide,by decide,b,0,fun _=>⟨2,n, .empty,none,0,0,none,0,0⟩,fun _=>⟨rfl,h.lt⟩,fun i hi=>by
  have h0:i=0:=by simpa using hi
  subst h0
  exact ⟨⟨h.at_ 0 _ rfl,h.at_ 1 _ rfl,h.at_ 2 _ rfl,h.at_ 3 _ rfl,h.at_ 4 _ rfl⟩,Ke W _ 2 n (by decide) hn⟩⟩ (Q7 W _)
theorem zbx (w:World) (hT:Tabs w) (k m:Int) (hm: -9223372036854775808<=m/\m<=9223372036854775807) (d:VC) (hd:IsVal w w.heap.size (vaV k) d) (p:Nat) (hp:BC w p [.bool true, .int .i64 0, .string { data:= #[] }]):Calls Tryd.prog 12 #[.agg #[.int .u8 d.k, .int .i64 d.n, .string d.s, .slice d.la d.ll d.lc, .slice d.oa d.ol d.oc], .agg #[.int .u8 1, .slice (some ⟨p,0,none⟩) 1 1, .string { data:= #[] }, .int .i64 0, .int .i64 0, .int .i64 m, .int .u8 0, .int .i64 0, .string { data:= #[] }, .slice none 0 0, .slice none 0 0, .string { data:= #[] }]] w fun e w'=>(∃c:VC,e= .returned (.tuple #[.agg #[.int .u8 c.k, .int .i64 c.n, .string c.s, .slice c.la c.ll c.lc, .slice c.oa c.ol c.oc], .int .u16 0])/\IsVal w' w'.heap.size (vaV (wrap64 (k+m))) c)/\Below w.heap.size w w':=by
 refine (X2 w d.k d.n d.s d.la d.ll d.lc d.oa d.ol d.oc (vaV k) hd (by rw [zbn];omega) [⟨true,0, .empty⟩] V.none ⟨1,some ⟨p,0,none⟩,1,1, .empty,0,0,m,⟨0,0, .empty,none,0,0,none,0,0⟩, .empty⟩ ⟨by dsimp only;omega,by dsimp only;omega,by dsimp only;omega,by dsimp only;omega,by dsimp only;omega,by dsimp only;omega,hm.1,hm.2,show ByteArray.empty.size<=140737488355328 by decide,show ByteArray.empty.size<=140737488355328 by decide⟩ ⟨rfl,by dsimp only;omega,by dsimp only;omega,by dsimp only;omega,p,0,fun _=>⟨rfl,hp.lt⟩,fun i hi=>by
  have h0:i=0:=by simpa using hi
  subst h0
  exact ⟨⟨hp.at_ 0 _ rfl,hp.at_ 1 _ rfl,hp.at_ 2 _ rfl⟩,⟨(show (-9223372036854775808:Int)<=0 by decide),(show (0:Int)<=9223372036854775807 by decide),(show ByteArray.empty.size<=140737488355328 by decide)⟩⟩⟩ (Zr _ _) (by have:=Y6;omega) (fun y hy=>by have h1:=Z7 _ hy;have h2:=y.str_weight.1;have h3:=zbn k;have h4:ByteArray.empty.size=0:=rfl;dsimp only;omega) (ze1 k) hT).mono ?_
 rintro e w' ⟨⟨c,rfl,hI⟩,hb'⟩
 have hd:=ado k m
 unfold caC at hd
 rw [hd] at hI ⊢
 exact ⟨⟨c,rfl,hI.sub (Zn _ _ _)⟩,hb'⟩
theorem zaq (w:World) (o:Obj):Below w.heap.size w (w.alloc o):=(Below.refl _ _).alloc (Nat.le_refl _) o
set_option maxRecDepth 100000 in
theorem zeo (w:World) (hT:Tabs w) (n m:Int) (hn: -9223372036854775808<=n/\n<=9223372036854775807) (hm: -9223372036854775808<=m/\m<=9223372036854775807):Calls Tryd.prog 5 #[.int .i64 n, .int .i64 m] w fun e w'=>e= .returned (.bool true)/\Below w.heap.size w w':=by
 have HT:=qh hT
 have HN:=qh hn;have HM:=qh hm
 clear hT
 go_enter Tryd.func5,Tryd.ntmps5
 go_wp2_with fail
 have hbl:BC (((w.alloc (.cells #[.int .u8 2, .int .i64 n, .string { data:= #[] }, .slice none 0 0, .slice none 0 0] 31)).alloc (.cells #[.int .u8 4, .int .i64 0, .string { data:= #[] }, .slice (some ⟨w.heap.size,0,none⟩) 1 1, .slice none 0 0] 31)).alloc (.cells #[.bool true, .int .i64 0, .string { data:= #[] }] 57)) w.heap.size (vcells ⟨2,n, .empty,none,0,0,none,0,0⟩):=(BC.start w #[.int .u8 2, .int .i64 n, .string { data:= #[] }, .slice none 0 0, .slice none 0 0] 31).keep (((Below.refl _ _).alloc (Nat.le_refl _) _).alloc (by simp) _) (by simp)
 have hbv:BC (((w.alloc (.cells #[.int .u8 2, .int .i64 n, .string { data:= #[] }, .slice none 0 0, .slice none 0 0] 31)).alloc (.cells #[.int .u8 4, .int .i64 0, .string { data:= #[] }, .slice (some ⟨w.heap.size,0,none⟩) 1 1, .slice none 0 0] 31)).alloc (.cells #[.bool true, .int .i64 0, .string { data:= #[] }] 57)) (w.heap.size+1) [.int .u8 4, .int .i64 0, .string { data:= #[] }, .slice (some ⟨w.heap.size,0,none⟩) 1 1, .slice none 0 0] :=by
  have:=(BC.start (w.alloc (.cells #[.int .u8 2, .int .i64 n, .string { data:= #[] }, .slice none 0 0, .slice none 0 0] 31)) #[.int .u8 4, .int .i64 0, .string { data:= #[] }, .slice (some ⟨w.heap.size,0,none⟩) 1 1, .slice none 0 0] 31).keep ((Below.refl _ _).alloc (Nat.le_refl _) (.cells #[.bool true, .int .i64 0, .string { data:= #[] }] 57)) (by simp)
  rw [World.size_alloc] at this;exact this
 have hbp:BC (((w.alloc (.cells #[.int .u8 2, .int .i64 n, .string { data:= #[] }, .slice none 0 0, .slice none 0 0] 31)).alloc (.cells #[.int .u8 4, .int .i64 0, .string { data:= #[] }, .slice (some ⟨w.heap.size,0,none⟩) 1 1, .slice none 0 0] 31)).alloc (.cells #[.bool true, .int .i64 0, .string { data:= #[] }] 57)) (w.heap.size+1+1) [.bool true, .int .i64 0, .string { data:= #[] }] :=by
  have:=BC.start ((w.alloc (.cells #[.int .u8 2, .int .i64 n, .string { data:= #[] }, .slice none 0 0, .slice none 0 0] 31)).alloc (.cells #[.int .u8 4, .int .i64 0, .string { data:= #[] }, .slice (some ⟨w.heap.size,0,none⟩) 1 1, .slice none 0 0] 31)) #[.bool true, .int .i64 0, .string { data:= #[] }] 57
  rw [World.size_alloc,World.size_alloc] at this;exact this
 have hal:Below w.heap.size w (((w.alloc (.cells #[.int .u8 2, .int .i64 n, .string { data:= #[] }, .slice none 0 0, .slice none 0 0] 31)).alloc (.cells #[.int .u8 4, .int .i64 0, .string { data:= #[] }, .slice (some ⟨w.heap.size,0,none⟩) 1 1, .slice none 0 0] 31)).alloc (.cells #[.bool true, .int .i64 0, .string { data:= #[] }] 57)):=(((Below.refl _ _).alloc (Nat.le_refl _) _).alloc (by simp) _).alloc (by simp;omega) _
 obtain ⟨wa,hwa⟩:∃wa,((w.alloc (.cells #[.int .u8 2, .int .i64 n, .string { data:= #[] }, .slice none 0 0, .slice none 0 0] 31)).alloc (.cells #[.int .u8 4, .int .i64 0, .string { data:= #[] }, .slice (some ⟨w.heap.size,0,none⟩) 1 1, .slice none 0 0] 31)).alloc (.cells #[.bool true, .int .i64 0, .string { data:= #[] }] 57)=wa:=⟨_,rfl⟩
 rw [hwa] at hbl hbv hbp hal ⊢
 clear hwa
 have hI1:IsVal wa wa.heap.size (vaV n) ⟨4,0, .empty,some ⟨w.heap.size,0,none⟩,1,1,none,0,0⟩:=zic wa w.heap.size n HN.out hbl
 refine (zbx wa (HT.out.below hal) n m HM.out ⟨4,0, .empty,some ⟨w.heap.size,0,none⟩,1,1,none,0,0⟩ hI1 (w.heap.size+1+1) hbp).mono ?_
 rintro e w1 ⟨⟨c,rfl,hc⟩,hb1⟩
 have hbv1:=hbv.keep hb1 hbv.lt
 have hbp1:=hbp.keep hb1 hbp.lt
 have HA1:=qh (hal.trans (hb1.mono hal.size))
 have HI1:=qh (hI1.later_ hb1)
 obtain ⟨_,_,_,_,hls,_⟩:=hc.parts
 have hl:c.ll=1:=hls.len
 obtain ⟨lb,lo,f,hp,hla,hlt,hfv,hfi⟩:=hls.get (k:=0) (by omega)
 obtain ⟨_,hfn,_⟩:=hfi.parts
 have hfn:wrap64 (n+m)=f.n:=hfn
 have hl0:w1.cell? ⟨lb,lo+1,none⟩=some (.int .i64 (wrap64 (n+m))):=by
  have:=hfv.c1
  rw [hfn];simpa using this
 have HC:=qh hc;have HP1:=qh hbp1;have HV1:=qh hbv1;have HL0:=qh hl0;have HLT:=qh hlt
 clear hbl hbv hbp hal hI1 hb1 hc hls hfv hfi hfn hl0
 obtain ⟨ck,cn,cs,cla,cll,clc,coa,col,coc⟩:=c
 dsimp only at hl hla
 subst hl hla
 clear hlt hbv1 hbp1
 go_wp2_with fail
 have hnm:IntKind.i64.wrap (-m)=wrap64 (-m):=zdp _
 have hbr:BC (w1.alloc (.cells #[.int .u8 ck, .int .i64 cn, .string cs, .slice (some ⟨lb,lo,none⟩) 1 clc, .slice coa col coc] 31)) w1.heap.size (vcells ⟨ck,cn,cs,some ⟨lb,lo,none⟩,1,clc,coa,col,coc⟩):=BC.start w1 #[.int .u8 ck, .int .i64 cn, .string cs, .slice (some ⟨lb,lo,none⟩) 1 clc, .slice coa col coc] 31
 have hn2:Below w1.heap.size w1 (w1.alloc (.cells #[.int .u8 ck, .int .i64 cn, .string cs, .slice (some ⟨lb,lo,none⟩) 1 clc, .slice coa col coc] 31)):=(Below.refl _ _).alloc (Nat.le_refl _) _
 obtain ⟨wb,hwb⟩:∃wb,w1.alloc (.cells #[.int .u8 ck, .int .i64 cn, .string cs, .slice (some ⟨lb,lo,none⟩) 1 clc, .slice coa col coc] 31)=wb:=⟨_,rfl⟩
 rw [hwb] at hbr hn2 ⊢
 clear hwb
 refine (zbx wb (HT.out.below (HA1.out.trans (hn2.mono HA1.out.size))) (wrap64 (n+m)) (wrap64 (-m)) ⟨by unfold wrap64;omega,by unfold wrap64;omega⟩ ⟨ck,cn,cs,some ⟨lb,lo,none⟩,1,clc,coa,col,coc⟩ (HC.out.later_ hn2) (w.heap.size+1+1) (HP1.out.keep hn2 HP1.out.lt)).mono ?_
 rintro e w3 ⟨⟨d,rfl,hd⟩,hb3⟩
 rw [ze0 HN.out] at hd
 have hn3:=hn2.trans (hb3.mono hn2.size)
 have hr3:=hbr.keep hb3 hbr.lt
 have HA3:=qh (HA1.out.trans (hn3.mono HA1.out.size))
 have HR3:=qh hr3
 have HV3:=qh (HV1.out.keep hn3 HV1.out.lt)
 have HL3:=qh (Zb hn3 HL0.out HLT.out)
 have HLT3:Hid (lb<w3.heap.size):=qh (Nat.lt_of_lt_of_le HLT.out hn3.size)
 have HD3:=qh hd
 have HI3:=qh (HI1.out.later_ hn3)
 clear hbr hn2 hb3 hn3 hr3 hd
 go_wp2_with fail
 refine (Jq _ (HT.out.below (HA3.out.trans ((zaq w3 _).mono HA3.out.size)))).mono ?_
 rintro e w4 ⟨rfl,hb4⟩
 have hn4:Below w3.heap.size w3 w4:=(zaq w3 _).trans (hb4.mono (by simp))
 have hd4:BC w4 w3.heap.size (vcells d):=(BC.start w3 #[.int .u8 d.k, .int .i64 d.n, .string d.s, .slice d.la d.ll d.lc, .slice d.oa d.ol d.oc] 31).keep hb4 (by simp)
 have hr4:=HR3.out.keep hn4 HR3.out.lt
 have hv4:=HV3.out.keep hn4 HV3.out.lt
 have hl4:=Zb hn4 HL3.out HLT3.out
 have hlt4:lb<w4.heap.size:=Nat.lt_of_lt_of_le HLT3.out hn4.size
 have HA4:=qh (HA3.out.trans (hn4.mono HA3.out.size))
 have HSM:Hid (Calls Tryd.prog 16 #[.agg #[.int .u8 d.k, .int .i64 d.n, .string d.s, .slice d.la d.ll d.lc, .slice d.oa d.ol d.oc], .agg #[.int .u8 4, .int .i64 0, .string { data:= #[] }, .slice (some ⟨w.heap.size,0,none⟩) 1 1, .slice none 0 0]] w4 fun e w'=>e= .returned (.bool true)/\Below w4.heap.size w4 w'):=qh (by
  have:=Xq (vaV n) (vaV n) w4 d ⟨4,0, .empty,some ⟨w.heap.size,0,none⟩,1,1,none,0,0⟩ (HD3.out.later_ hn4) (HI3.out.later_ hn4)
  rw [Xb rfl] at this;exact this)
 have r3:=hr4.at_ 3 _ rfl;have zr:=hr4.lt
 have v0:=hv4.at_ 0 _ rfl;have v1:=hv4.at_ 1 _ rfl;have v2:=hv4.at_ 2 _ rfl;have v3:=hv4.at_ 3 _ rfl;have v4:=hv4.at_ 4 _ rfl;have zv:=hv4.lt
 have d0:=hd4.at_ 0 _ rfl;have d1:=hd4.at_ 1 _ rfl;have d2:=hd4.at_ 2 _ rfl;have d3:=hd4.at_ 3 _ rfl;have d4:=hd4.at_ 4 _ rfl;have zd:=hd4.lt
 clear hb4 hn4 hd4 hr4 hv4
 go_wp2_with fail
 refine HSM.out.mono ?_
 rintro e w5 ⟨rfl,hb5⟩
 have HA5:=qh (HA4.out.trans (hb5.mono HA4.out.size))
 clear hb5
 go_wp2_with fail
 go_returns
 exact ⟨rfl,HA5.out⟩
end Go.Proofs.YtfoahkbnheijcaaDoor
namespace Go.Proofs.YtfoahkbnheijcaaDoor
open Go.Shelf
open Go.ChangeShapes Go.WideShapes Go.ChangeAt Go.RowKit Go.Lib
set_option maxHeartbeats 2000000
theorem rowCompAddsOwn:ownKnob Tryd.prog.godebug=none:=by kernel_rfl
theorem rowCompAddsLaidOut:laidOutB Tryd.prog=true:=by kernel_rfl
noncomputable def rowCompAddsWorld (os:Os):World:=
 let w0:=World.holding Tryd.prog os ⟨#[], #[], []⟩
 let put (h:Array Obj) (g:Nat) (cs:Array Value):Array Obj:=h.modify g fun
  | .cells _ t frozen=> .cells cs t frozen
  |o=>o
 let h1:=put w0.heap 0 (Lib.firstTab.map fun z=>Value.int .u8 z).toArray
 let h2:=put h1 1 ((List.range 16).flatMap fun i=> [Value.int .u8 (Lib.accLo i),Value.int .u8 (Lib.accHi i)]).toArray
 { w0 with heap:=h2 }
theorem rowCompAddsAccept:Rows.laid_unicode_utf8_acceptRanges (H:=Unit)=Lib.acceptData:=by kernel_rfl
theorem rowCompAddsLaid : Rows.compAddsRow.laid = [("unicode/utf8.acceptRanges", Lib.acceptData), ("unicode/utf8.first", Lib.firstData)] := by
 show [("unicode/utf8.acceptRanges", Rows.laid_unicode_utf8_acceptRanges), ("unicode/utf8.first", Go.Pinned.utf8First)] = _
 rw [Pinned.utf8First_eq,rowCompAddsAccept]
theorem rowCompAddsLaidMet (os:Os) (args:Array Value):laidMet Tryd.prog Rows.compAddsRow.laid ((rowCompAddsWorld os).forCall (fun _ _=>0) ⟨#[],args, []⟩).memory:=by
 rw [rowCompAddsLaid]
 exact (LaidIn.of_run (l := [("unicode/utf8.acceptRanges", Lib.acceptData), ("unicode/utf8.first", Lib.firstData)]) [0, 1] 8 (by kernel_rfl) (by kernel_rfl) (by kernel_rfl) (by kernel_rfl)).met
theorem rowCompAddsWitness (os:Os) {H:Type} (enc:TypeId×Value->H):
 (OpenSpec.ofChange Rows.compAddsSpec).preRow enc Tryd.prog Tryd.f5 Rows.compAddsRow.domain false Rows.compAddsRow.laid ((rowCompAddsWorld os).forCall (fun _ _=>0) ⟨#[], #[.int .i64 0, .int .i64 0], []⟩).memory #[.int .i64 0, .int .i64 0] :=by
 have hw:(DataW.whole enc Tryd.prog ((rowCompAddsWorld os).forCall (fun _ _=>0) ⟨#[], #[.int .i64 0, .int .i64 0], []⟩).memory Tryd.f5.params.toList (OpenSpec.ofChange Rows.compAddsSpec).vars false #[Value.int .i64 0, .int .i64 0].toList 8).map (fun x=>(x.1,x.2.1))=
  some ([.lit (.int .i64 0), .lit (.int .i64 0)], []):=by kernel_rfl
 obtain ⟨⟨x1,x2,x3⟩,hx,hx1⟩:=Option.map_eq_some_iff.1 hw
 simp only [Prod.mk.injEq] at hx1
 obtain ⟨rfl,rfl⟩:=hx1
 exact OpenSpec.preRow_of_cond 8 hx (by kernel_rfl) (fun k hk=>by cases hk) (by kernel_rfl) (rowCompAddsLaidMet os _)
set_option maxRecDepth 100000 in
theorem rowCompAddsLifted (os:Os) (started:os.Started) (H:Type) (enc:TypeId×Value->H) (F:Stop.Interp):
 ReturnsInHanded {} Tryd.checked os 5 .any ((OpenSpec.ofChange Rows.compAddsSpec).preRow enc Tryd.prog Tryd.f5 Rows.compAddsRow.domain false Rows.compAddsRow.laid) (((OpenSpec.ofChange Rows.compAddsSpec).at F).post enc Tryd.prog Tryd.f5 false true false false):=by
 refine returnsInHanded_of_row (C:=Tryd.checked) (s:=OpenSpec.ofChange Rows.compAddsSpec) rowCompAddsOwn started (by kernel_rfl) Tryd.func5
  (witness_row_atRef (enc:=enc) (C:=Tryd.checked) false (rowCompAddsWorld os) #[.int .i64 0, .int .i64 0] rfl (by kernel_rfl) (by kernel_rfl) (by kernel_rfl) (rowCompAddsWitness os enc)) ?_
 intro W base args ds gs before hval0 hW _ _ hsz hL _ _
 have hval:∀(j:Nat) t v,Tryd.f5.params[j]? =some t->args[j]? =some v->Value.okWide Tryd.prog W .any base t v:=hval0
 have hW':=hW
 obtain ⟨p,q,hA0,hV0,rfl,_,_⟩:=hW
 have hA:DataW.TrodAll enc Tryd.prog W 0 (fun _=>true) true Tryd.f5.params.toList args.toList ds p:=hA0
 rw [Tryd.params5] at hA hval
 obtain ⟨v0,v1,d0,d1,p0,p1,rfl,rfl,rfl,h0,h1⟩:=trodAll_two hA
 obtain ⟨rfl,rfl⟩:=trodVars_none hV0
 have k0:=h0
 have lt0:∀x ∈ p0,x.block<W.heap.size:=by obtain ⟨m,hm⟩:=k0;exact DataW.trod_lt m _ _ _ hm
 have k1:=h1
 have lt1:∀x ∈ p1,x.block<W.heap.size:=by obtain ⟨m,hm⟩:=k1;exact DataW.trod_lt m _ _ _ hm
 obtain ⟨n0,rfl⟩:=okWide_int Tryd.underlying2 (hval 0 2 v0 rfl rfl)
 have hr0: -9223372036854775808<=n0/\n0<=9223372036854775807:=by
  obtain ⟨fuel,hf⟩:=h0
  obtain ⟨m,e,_,wf⟩:=DataW.trod_int Tryd.underlying2 hf
  simp [Value.cells] at e
  subst e
  exact bounds_i64 wf
 obtain ⟨n1,rfl⟩:=okWide_int Tryd.underlying2 (hval 1 2 v1 rfl rfl)
 have hr1: -9223372036854775808<=n1/\n1<=9223372036854775807:=by
  obtain ⟨fuel,hf⟩:=h1
  obtain ⟨m,e,_,wf⟩:=DataW.trod_int Tryd.underlying2 hf
  simp [Value.cells] at e
  subst e
  exact bounds_i64 wf
 clear hA0 hV0 hval0
 have htab:Tabs W:=
  utf8Tabs_of_readsT (U8Types.of196 Tryd.lays196) ⟨by kernel_rfl,by kernel_rfl,by kernel_rfl,by kernel_rfl,by kernel_rfl,by kernel_rfl,by kernel_rfl⟩ (by rw [<-Pinned.utf8First_eq];exact Lib.laidMet.reads hL (.tail _ (.head _))) (Lib.laidMet.reads hL (.head _))
 refine (zeo W htab n0 n1 hr0 hr1).mono fun e W' ⟨he,bel⟩=> ?_
 subst he
 exact ⟨_,rfl,_,_,_, [],_, [],hW',trodAll_mk1 (shut_bool Tryd.underlying4 _),trodAll_cons_mk (Below.trod rowCompAddsLaidOut (by kernel_rfl) (of_decide_eq_true (by kernel_rfl)) k0 bel lt0) (trodAll_cons_mk (Below.trod rowCompAddsLaidOut (by kernel_rfl) (of_decide_eq_true (by kernel_rfl)) k1 bel lt1) trodAll_mk0),rfl,bel.frame _,fun h=>by cases h⟩
theorem rowCompAddsRowHolds:Rows.CompAddsSaid:=
 OpenClaim.holds_of_cond 5 Tryd.f5 rfl rfl rfl rfl rfl rfl rfl ⟨rfl,rfl,rfl,rfl,rfl⟩ rfl rfl rfl rfl rfl (by kernel_rfl) Tryd.func5 (by kernel_rfl)
  (of_decide_eq_true (by kernel_rfl)) (by unfold Func.isWrapper;rw [if_neg (of_decide_eq_false (by kernel_rfl))];exact ⟨rfl,rfl⟩)
  (fun os started H enc _ F0=>by rw [OpenClaim.pre_eq_preRow];exact rowCompAddsLifted os started H enc F0)
theorem compAdds_holds:Rows.CompAddsCardSaid:=
 Claim7.holds_tied_plain_at .later [] [.data, .pinned] true _ false
  rowCompAddsRowHolds (fun _ h=>by cases h) (by kernel_rfl) (fun _ h=>by cases h) compAdds_row_tie rfl ⟨rfl,rfl⟩ (by kernel_rfl) rfl
  (fun f fn hf hfn=>by
   obtain rfl : f = 5 := Option.some.inj ((show Tryd.prog.funcNamed "conciliator/conciliatorlaw06.CompAdds" = some 5 by kernel_rfl).symm.trans hf) |>.symm
   obtain rfl:fn=Tryd.f5:=(Option.some.inj (Tryd.func5.symm.trans hfn)).symm
   exact ⟨by kernel_rfl,fun j t ht=>by
    rw [Tryd.params5] at ht
    rcases j with _|_|j
    .obtain rfl:t=2:=by simpa using ht.symm
     exact (show Tryd.prog.wantsStandIn 2=false by kernel_rfl)
    .obtain rfl:t=2:=by simpa using ht.symm
     exact (show Tryd.prog.wantsStandIn 2=false by kernel_rfl)
    .simp at ht⟩)
  (by kernel_rfl)
#print axioms compAdds_holds
end Go.Proofs.YtfoahkbnheijcaaDoor
