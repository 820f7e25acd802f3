/-
  Contracts of the functions that the law reaches: (*work).field (the program's)..
-/
import Derived.Test.YtnjgbiachcfigaaGreatDoorIw15
namespace Go.Proofs.YtnjgbiachcfigaaGreatDoor
open Go.RowKit
set_option maxHeartbeats 8000000
set_option maxRecDepth 100000 in
theorem zkh (W0 w:World) (B base:Nat) (d:VC) (cc:CC) (x xv:V) (co:List (ByteArray×VC)) (hB:BC w B (wcells d cc)) (hW0:uB W0 w) (hbase:W0.heap.size<=base) (hbB:base<=B) (hx:IsFields w w.heap.size x.os d.oa d.ol d.oc) (hF:FRow w base (fun k=>base<=k/\k≠B) (.slice d.oa d.ol d.oc) x.os co) (hne:(Value.slice d.oa d.ol d.oc).ownBlock≠some B) (hxv:IsVal W0 W0.heap.size xv cc.v) (hk:cc.k=2) (his:fieldIs x.os cc.key=false) (hfew:x.os.length<=100000000) (hks:cc.key.size<=140737488355328):
 uP 44 #[.pointer (some ⟨B,0,none⟩)] w (WFPost w B base d cc (newF x.os cc.key xv false)):=by
 delta uP
 have hkl:=Z7 x.os cc.key
 have hB0:=hB.lt
 have HF0:Hid (WF w w B base d cc x.os (Value.slice d.oa d.ol d.oc).ownBlock d.oa d.ol d.oc):=qh ⟨hB,⟨co,hF⟩, .inl rfl,hne,Gr2.refl _ _ _⟩
 have HVF:Hid (∀W,uB w W->uP 79 #[.agg (uV d), .string cc.key] W fun e w'=>e= .returned (.tuple #[.int .i64 (fieldK x.os cc.key:Int), .bool (fieldIs x.os cc.key)])/\uB W w'):=fun W hW=>Qj W x.os cc.key d (hx.later_ hW)
 have HCV:Hid (∀W,uB W0 W->uP 78 #[.agg (uV cc.v)] W fun e w'=>(∃f:VC,e= .returned (.agg #[.int .u8 f.k, .int .i64 f.n, .string f.s, .slice f.la f.ll f.lc, .slice f.oa f.ol f.oc])/\Whole w' W.heap.size xv f)/\uB W w'):=fun W hW=>Xa W xv cc.v (hxv.later_ hW)
 have hul:∀k,(Value.slice d.oa d.ol d.oc).ownBlock=some k->base<=k:=fun k hk=>(hF.own.lt k hk).1
 have HLOW:Hid (∀W,Gr2 w W B (Value.slice d.oa d.ol d.oc).ownBlock->uB W0 W):=qh fun W h=>hW0.trans ((h.low (by omega) hbB hul).mono hbase)
 have hBW:=hW0.size
 obtain ⟨FK,hFK⟩:∃FK,fieldK x.os cc.key=FK:=⟨_,rfl⟩
 obtain ⟨o,ho⟩:∃o,x.os=o:=⟨_,rfl⟩
 rw [hFK,his] at HVF
 rw [hFK,ho] at hkl
 have HR:Hid (newF x.os cc.key xv false=o.take FK++(cc.key,xv)::o.drop FK):=qh (by rw [newF,if_neg (by simp),withF,his,if_neg (by simp),hFK,ho])
 have HK3:=qh hk;clear hk
 rw [ho] at HF0 hfew
 have HKL:=qh hkl
 have HFEW:=qh hfew
 have c4:=hB.at_ 4 _ rfl;have c0:=hB.at_ 0 _ rfl;have c1:=hB.at_ 1 _ rfl;have c2:=hB.at_ 2 _ rfl;have c3:=hB.at_ 3 _ rfl;have c7:=hB.at_ 7 _ rfl
 have HBD:=qh (Zf w)
 have HKS:=qh hks
 have HBB:=qh hbB
 have HBA:=qh hbase
 have HB0:=qh hB0
 have hw1:IntKind.i64.wrap ((FK:Int)+1)=(FK:Int)+1:=IntWalk.i64_in _ (by omega)
 have mixed:Tryz.prog.follows .mixedOrders=true:=by kernel_rfl
 clear hB hW0 hbase hbB hx hF hne hxv his hfew hks hul hkl hFK ho hBW
 go_enter Tryz.func44,Tryz.ntmps44
 go_wp2_with fail
 go_region_with (go_simp;go_at_call 79;(with_reducible refine (HVF.out _ HBD.out).mono ?_);rintro e w1 ⟨rfl,hb1⟩;have HB1:=qh ((Zf w).trans hb1);clear hb1)
 all_goals (
  have HF1:=qh (HF0.out.later HB1.out)
  have y5:=HF1.out.box.at_ 5 _ rfl;rw [HK3.out] at y5;have f4:=HF1.out.box.fr 4;have z1:=HF1.out.box.lt
  go_wp2_with fail
  obtain ⟨w3,rfl⟩:∃w3,w1=w3:=⟨_,rfl⟩
  have HS3:=qh HF1.out
  clear y5 f4 z1 HF1
  have HKO:Hid (FK<=o.length):=HKL
  have HNO:Hid (o.length+1<=1466015503701):=qh (by have:=HFEW.out;omega)
  have HNL:Hid ((o.take FK++(cc.key,xv)::o.drop FK).length<=1466015503701):=qh (by have:=HFEW.out;have:=HKL.out;simp;omega)
  have q4:=HS3.out.box.at_ 4 _ rfl;have q7:=HS3.out.box.at_ 7 _ rfl;have q11:=HS3.out.box.at_ 11 _ rfl;have q12:=HS3.out.box.at_ 12 _ rfl;have q13:=HS3.out.box.at_ 13 _ rfl;have q14:=HS3.out.box.at_ 14 _ rfl;have q15:=HS3.out.box.at_ 15 _ rfl;have h4:=HS3.out.box.fr 4;have z3:=HS3.out.box.lt
  have HBD3:=qh ((HLOW.out _ HS3.out.gr).drew)
  have HZ3:=qh (HS3.out.gr.size)
  clear HF0 HVF HBD q7 q11 q12 q13 q14 q15
  have HSP:Hid (∀(W:World) (d':VC),BC W B (wcells d' cc)->W.cell? ⟨B,7,none⟩=some (.string cc.key)/\W.cell? ⟨B,11,none⟩=some (.int .u8 cc.v.k)/\W.cell? ⟨B,12,none⟩=some (.int .i64 cc.v.n)/\W.cell? ⟨B,13,none⟩=some (.string cc.v.s)/\W.cell? ⟨B,14,none⟩=some (.slice cc.v.la cc.v.ll cc.v.lc)/\W.cell? ⟨B,15,none⟩=some (.slice cc.v.oa cc.v.ol cc.v.oc)):=qh fun W d' h=>⟨h.at_ 7 _ rfl,h.at_ 11 _ rfl,h.at_ 12 _ rfl,h.at_ 13 _ rfl,h.at_ 14 _ rfl,h.at_ 15 _ rfl⟩
  have HK0:=qh (HSP.out _ _ (HS3.out.later (Zf w1)).box)
  refine wp_region_noPanic ?_
  refine wp_region_held_drew (S:=fun W=>W.cell? ⟨B,7,none⟩=some (.string cc.key)/\W.cell? ⟨B,11,none⟩=some (.int .u8 cc.v.k)/\W.cell? ⟨B,12,none⟩=some (.int .i64 cc.v.n)/\W.cell? ⟨B,13,none⟩=some (.string cc.v.s)/\W.cell? ⟨B,14,none⟩=some (.slice cc.v.la cc.v.ll cc.v.lc)/\W.cell? ⟨B,15,none⟩=some (.slice cc.v.oa cc.v.ol cc.v.oc)) (by kernel_rfl) HK0.out (fun hHeld=> ?_)
  refine Zh (i:=0) (d:=some 37) (v:= ?_) rfl rfl (by kernel_rfl) (by kernel_rfl) (by kernel_rfl) (fun _ _ _ h=>h) (Or.inl ⟨by rfl, ?_⟩) (by assumption) ?_
  rotate_left
  .intro w' hSw
   obtain ⟨s7,s11,s12,s13,s14,s15⟩:=hSw
   go_simp
   all_goals (with_reducible rfl)
  simp only [Act.put,List.setIfInBounds_toArray,List.set_cons_zero,List.set_cons_succ]
  refine Zh (i:=1) (d:=some 38) (v:= ?_) rfl rfl (by kernel_rfl) (by kernel_rfl) (by kernel_rfl) (fun _ _ _ h=>h) (Or.inl ⟨by rfl, ?_⟩) (by assumption) ?_
  rotate_left
  .intro w' hSw
   obtain ⟨s7,s11,s12,s13,s14,s15⟩:=hSw
   go_simp
   all_goals (with_reducible rfl)
  simp only [Act.put,List.setIfInBounds_toArray,List.set_cons_zero,List.set_cons_succ]
  refine Zh (i:=2) (d:=some 39) (v:= ?_) rfl rfl (by kernel_rfl) (by kernel_rfl) (by kernel_rfl) (fun _ _ _ h=>h) (Or.inl ⟨by rfl, ?_⟩) (by assumption) ?_
  rotate_left
  .intro w' hSw
   obtain ⟨s7,s11,s12,s13,s14,s15⟩:=hSw
   go_simp
   all_goals (with_reducible rfl)
  simp only [Act.put,List.setIfInBounds_toArray,List.set_cons_zero,List.set_cons_succ]
  refine Zh (i:=3) (d:=some 40) (v:= ?_) rfl rfl (by kernel_rfl) (by kernel_rfl) (by kernel_rfl) (fun _ _ _ h=>h) (Or.inl ⟨by rfl, ?_⟩) (by assumption) ?_
  rotate_left
  .intro w' hSw
   obtain ⟨s7,s11,s12,s13,s14,s15⟩:=hSw
   go_simp
   all_goals (with_reducible rfl)
  simp only [Act.put,List.setIfInBounds_toArray,List.set_cons_zero,List.set_cons_succ]
  refine Zh (i:=4) (d:=some 41) (v:= ?_) rfl rfl (by kernel_rfl) (by kernel_rfl) (by kernel_rfl) (fun _ _ _ h=>h) (Or.inl ⟨by rfl, ?_⟩) (by assumption) ?_
  rotate_left
  .intro w' hSw
   obtain ⟨s7,s11,s12,s13,s14,s15⟩:=hSw
   go_simp
   all_goals (with_reducible rfl)
  simp only [Act.put,List.setIfInBounds_toArray,List.set_cons_zero,List.set_cons_succ]
  refine Zh (i:=6) (d:=some 43) (v:= ?_) rfl rfl (by kernel_rfl) (by kernel_rfl) (by kernel_rfl) (fun _ _ _ h=>h) (Or.inl ⟨by rfl, ?_⟩) (by assumption) ?_
  rotate_left
  .intro w' hSw
   obtain ⟨s7,s11,s12,s13,s14,s15⟩:=hSw
   go_simp
   all_goals (with_reducible rfl)
  simp only [Act.put,List.setIfInBounds_toArray,List.set_cons_zero,List.set_cons_succ]
  refine Zh (i:=7) (d:=some 44) (v:= ?_) rfl rfl (by kernel_rfl) (by kernel_rfl) (by kernel_rfl) (fun _ _ _ h=>h) (Or.inl ⟨by rfl, ?_⟩) (by assumption) ?_
  rotate_left
  .intro w' hSw
   obtain ⟨s7,s11,s12,s13,s14,s15⟩:=hSw
   go_simp
   all_goals (with_reducible rfl)
  simp only [Act.put,List.setIfInBounds_toArray,List.set_cons_zero,List.set_cons_succ]
  refine Zh (i:=8) (d:=some 45) (v:= ?_) rfl rfl (by kernel_rfl) (by kernel_rfl) (by kernel_rfl) (fun _ _ _ h=>h) (Or.inl ⟨by rfl, ?_⟩) (by assumption) ?_
  rotate_left
  .intro w' hSw
   obtain ⟨s7,s11,s12,s13,s14,s15⟩:=hSw
   go_simp
   all_goals (with_reducible rfl)
  simp only [Act.put,List.setIfInBounds_toArray,List.set_cons_zero,List.set_cons_succ]
  refine Zh (i:=9) (d:=some 46) (v:= ?_) rfl rfl (by kernel_rfl) (by kernel_rfl) (by kernel_rfl) (fun _ _ _ h=>h) (Or.inl ⟨by rfl, ?_⟩) (by assumption) ?_
  rotate_left
  .intro w' hSw
   obtain ⟨s7,s11,s12,s13,s14,s15⟩:=hSw
   go_simp
   all_goals (with_reducible rfl)
  simp only [Act.put,List.setIfInBounds_toArray,List.set_cons_zero,List.set_cons_succ]
  refine Zh (i:=10) (d:=some 47) (v:= ?_) rfl rfl (by kernel_rfl) (by kernel_rfl) (by kernel_rfl) (fun _ _ _ h=>h) (Or.inl ⟨by rfl, ?_⟩) (by assumption) ?_
  rotate_left
  .intro w' hSw
   obtain ⟨s7,s11,s12,s13,s14,s15⟩:=hSw
   go_simp
   all_goals (with_reducible rfl)
  simp only [Act.put,List.setIfInBounds_toArray,List.set_cons_zero,List.set_cons_succ]
  refine Zh (i:=11) (d:=some 48) (v:= ?_) rfl rfl (by kernel_rfl) (by kernel_rfl) (by kernel_rfl) (fun _ _ _ h=>h) (Or.inl ⟨by rfl, ?_⟩) (by assumption) ?_
  rotate_left
  .intro w' hSw
   obtain ⟨s7,s11,s12,s13,s14,s15⟩:=hSw
   go_simp
   all_goals (with_reducible rfl)
  simp only [Act.put,List.setIfInBounds_toArray,List.set_cons_zero,List.set_cons_succ]
  refine Zh (i:=12) (d:=some 49) (v:= ?_) rfl rfl (by kernel_rfl) (by kernel_rfl) (by kernel_rfl) (fun _ _ _ h=>h) (Or.inl ⟨by rfl, ?_⟩) (by assumption) ?_
  rotate_left
  .intro w' hSw
   obtain ⟨s7,s11,s12,s13,s14,s15⟩:=hSw
   go_simp
   all_goals (with_reducible rfl)
  simp only [Act.put,List.setIfInBounds_toArray,List.set_cons_zero,List.set_cons_succ]
  refine Zh (i:=13) (d:=some 50) (v:= ?_) rfl rfl (by kernel_rfl) (by kernel_rfl) (by kernel_rfl) (fun _ _ _ h=>h) (Or.inl ⟨by rfl, ?_⟩) (by assumption) ?_
  rotate_left
  .intro w' hSw
   obtain ⟨s7,s11,s12,s13,s14,s15⟩:=hSw
   go_simp
   all_goals (with_reducible rfl)
  simp only [Act.put,List.setIfInBounds_toArray,List.set_cons_zero,List.set_cons_succ]
  refine Zh (i:=14) (d:=some 51) (v:= ?_) rfl rfl (by kernel_rfl) (by kernel_rfl) (by kernel_rfl) (fun _ _ _ h=>h) (Or.inl ⟨by rfl, ?_⟩) (by assumption) ?_
  rotate_left
  .intro w' hSw
   obtain ⟨s7,s11,s12,s13,s14,s15⟩:=hSw
   go_simp
   all_goals (with_reducible rfl)
  simp only [Act.put,List.setIfInBounds_toArray,List.set_cons_zero,List.set_cons_succ]
  refine Zh (i:=15) (d:=some 52) (v:= ?_) rfl rfl (by kernel_rfl) (by kernel_rfl) (by kernel_rfl) (fun _ _ _ h=>h) (Or.inl ⟨by rfl, ?_⟩) (by assumption) ?_
  rotate_left
  .intro w' hSw
   obtain ⟨s7,s11,s12,s13,s14,s15⟩:=hSw
   go_simp
   all_goals (with_reducible rfl)
  simp only [Act.put,List.setIfInBounds_toArray,List.set_cons_zero,List.set_cons_succ]
  refine Zh (i:=16) (d:=some 53) (v:= ?_) rfl rfl (by kernel_rfl) (by kernel_rfl) (by kernel_rfl) (fun _ _ _ h=>h) (Or.inl ⟨by rfl, ?_⟩) (by assumption) ?_
  rotate_left
  .intro w' hSw
   obtain ⟨s7,s11,s12,s13,s14,s15⟩:=hSw
   go_simp
   all_goals (with_reducible rfl)
  simp only [Act.put,List.setIfInBounds_toArray,List.set_cons_zero,List.set_cons_succ]
  refine wpAnyH_ready (rs:= [5,17]) (by kernel_rfl) (by simp) ?_
  refine AllReadyH.cons rfl (fun K hK=> ?_) (AllReadyH.cons rfl (fun K hK=> ?_) AllReadyH.nil)
  .go_simp
   refine hK.out _ _ HK0.out (fun _=> ?_)
   clear hK K
   try simp only [Act.put,List.setIfInBounds_toArray,List.set_cons_zero,List.set_cons_succ]
   refine wpAnyH_ready (rs:= [17]) (by kernel_rfl) (by simp) ?_
   refine AllReadyH.cons rfl (fun K hK=> ?_) AllReadyH.nil
   go_simp
   go_at_call 78
   (with_reducible refine (HCV.out _ HBD3.out).mono ?_)
   rintro e w4 ⟨⟨f,rfl,hW4⟩,hb4⟩
   have hB34:uB w1 w4:=(Zf w1).trans hb4
   have HF4:=qh (HS3.out.later hB34)
   have p4:=HF4.out.box.at_ 4 _ rfl;have i4:=HF4.out.box.fr 4;have z4:=HF4.out.box.lt
   have HFA:=qh (HF4.out.later ((Below.refl _ _).alloc (Nat.le_refl _) (.cells #[.string cc.key, .int .u8 f.k, .int .i64 f.n, .string f.s, .slice f.la f.ll f.lc, .slice f.oa f.ol f.oc] 75)))
   have HK4:=qh (HSP.out _ _ HF4.out.box)
   have HKA:=qh (HSP.out _ _ HFA.out.box)
   obtain ⟨co4,hF4⟩:=HFA.out.row
   have hos:∀k,(Value.slice d.oa d.ol d.oc).ownBlock=some k->k<w1.heap.size:=(fun k hk=>(by obtain ⟨co3,hF3⟩:=HS3.out.row;exact (hF3.own.lt k hk).2))
   have HIN:=qh (hF4.ins_any (i:=FK) (key:=cc.key) (x:=xv) (cx:=f) (vb:=w4.heap.size) (by have:=HB0.out;have:=HBB.out;have:=HZ3.out;have:=hB34.size;simp;omega) HKO.out HNO.out HKS.out (((hW4.sepI.isVal).sub (Zd fun k hk hl=>⟨⟨⟨by have:=HB0.out;have:=HBB.out;have:=HZ3.out;have:w1.heap.size<=k:=hk;omega,by have:=HB0.out;have:=HZ3.out;have:w1.heap.size<=k:=hk;omega⟩,fun e=>by have:=hos k e;have:w1.heap.size<=k:=hk;omega⟩,by first|exact heap_alloc_old w4 _ k hl|exact heap_alloc_old w4 _ hl⟩)).more (by simp)) (heap_alloc_new w4 _) (fun e=>by have:=hos _ e;have:=hB34.size;omega))
   clear hW4 hb4 hB34 hF4 hos
   refine hK.out _ _ HK4.out (fun _=> ?_)
   clear hK K
   try simp only [Act.put,List.setIfInBounds_toArray,List.set_cons_zero,List.set_cons_succ]
   refine Zh (i:=18) (d:=some 55) (v:= ?_) rfl rfl (by kernel_rfl) (by kernel_rfl) (by kernel_rfl) (fun _ _ _ h=>h) (Or.inl ⟨by rfl, ?_⟩) (by assumption) ?_
   rotate_left
   .intro w' hSw
    obtain ⟨s7,s11,s12,s13,s14,s15⟩:=hSw
    go_simp
    all_goals (with_reducible rfl)
   simp only [Act.put,List.setIfInBounds_toArray,List.set_cons_zero,List.set_cons_succ]
   refine wpAnyH_ready (rs:= [19]) (by kernel_rfl) (by simp) ?_
   refine AllReadyH.cons rfl (fun K hK=> ?_) AllReadyH.nil
   go_simp
   refine hK.out _ _ HKA.out (fun _=> ?_)
   clear hK K
   try simp only [Act.put,List.setIfInBounds_toArray,List.set_cons_zero,List.set_cons_succ]
   refine wpAnyH_ready (rs:= [20]) (by kernel_rfl) (by simp) ?_
   refine AllReadyH.cons rfl (fun K hK=> ?_) AllReadyH.nil
   go_simp
   go_at_call 81
   (with_reducible refine HIN.out.mono ?_)
   rintro e w5 ⟨v5,rfl,⟨co5,hF5⟩,hg5,hu5⟩
   obtain ⟨a5,n5,c5,rfl⟩:=hF5.slice
   have BX5:=HFA.out.box.grown hg5 HFA.out.ne
   have j4:=BX5.fr 4;have m4:=BX5.at_ 4 _ rfl;have z5:=BX5.lt
   have HS5:=qh (HFA.out.stored HB0.out hF5 hg5 hu5)
   have HK5:=qh (HSP.out _ _ BX5)
   have HK6:=qh (HSP.out _ _ HS5.out.box)
   clear hF5 hg5 hu5 BX5
   refine hK.out _ _ HK5.out (fun _=> ?_)
   clear hK K
   try simp only [Act.put,List.setIfInBounds_toArray,List.set_cons_zero,List.set_cons_succ]
   refine Zh (i:=21) (d:=some 58) (v:= ?_) rfl rfl (by kernel_rfl) (by kernel_rfl) (by kernel_rfl) (fun _ _ _ h=>h) (Or.inl ⟨by rfl, ?_⟩) (by assumption) ?_
   rotate_left
   .intro w' hSw
    obtain ⟨s7,s11,s12,s13,s14,s15⟩:=hSw
    go_simp
    all_goals (with_reducible rfl)
   simp only [Act.put,List.setIfInBounds_toArray,List.set_cons_zero,List.set_cons_succ]
   refine Zh (i:=22) (d:=some 59) (v:= ?_) rfl rfl (by kernel_rfl) (by kernel_rfl) (by kernel_rfl) (fun _ _ _ h=>h) (Or.inl ⟨by rfl, ?_⟩) (by assumption) ?_
   rotate_left
   .intro w' hSw
    obtain ⟨s7,s11,s12,s13,s14,s15⟩:=hSw
    go_simp
    all_goals (with_reducible rfl)
   simp only [Act.put,List.setIfInBounds_toArray,List.set_cons_zero,List.set_cons_succ]
   refine Zh (i:=23) (d:=some 60) (v:= ?_) rfl rfl (by kernel_rfl) (by kernel_rfl) (by kernel_rfl) (fun _ _ _ h=>h) (Or.inl ⟨by rfl, ?_⟩) (by assumption) ?_
   rotate_left
   .intro w' hSw
    obtain ⟨s7,s11,s12,s13,s14,s15⟩:=hSw
    go_simp
    all_goals (with_reducible rfl)
   simp only [Act.put,List.setIfInBounds_toArray,List.set_cons_zero,List.set_cons_succ]
   refine wpAnyH_ready (rs:= [24]) (by kernel_rfl) (by simp) ?_
   refine AllReadyH.cons rfl (fun K hK=> ?_) AllReadyH.nil
   go_simp
   refine hK.out _ _ HK6.out (fun _=> ?_)
   clear hK K
   try simp only [Act.put,List.setIfInBounds_toArray,List.set_cons_zero,List.set_cons_succ]
   refine wpAnyH_done (by kernel_rfl) ?_ _
   refine NoPanic.normal ?_
   go_wp2_with fail
   have HFIN:=HS5.out.post HNL.out
   exact ⟨rfl, .tuple #[],by simp [results,Tryz.results44,go_sem],by rw [HR.out];exact HFIN⟩
  .go_simp
   go_at_call 78
   (with_reducible refine (HCV.out _ HBD3.out).mono ?_)
   rintro e w4 ⟨⟨f,rfl,hW4⟩,hb4⟩
   have hB34:uB w1 w4:=(Zf w1).trans hb4
   have HF4:=qh (HS3.out.later hB34)
   have p4:=HF4.out.box.at_ 4 _ rfl;have i4:=HF4.out.box.fr 4;have z4:=HF4.out.box.lt
   have HFA:=qh (HF4.out.later ((Below.refl _ _).alloc (Nat.le_refl _) (.cells #[.string cc.key, .int .u8 f.k, .int .i64 f.n, .string f.s, .slice f.la f.ll f.lc, .slice f.oa f.ol f.oc] 75)))
   have HK4:=qh (HSP.out _ _ HF4.out.box)
   have HKA:=qh (HSP.out _ _ HFA.out.box)
   obtain ⟨co4,hF4⟩:=HFA.out.row
   have hos:∀k,(Value.slice d.oa d.ol d.oc).ownBlock=some k->k<w1.heap.size:=(fun k hk=>(by obtain ⟨co3,hF3⟩:=HS3.out.row;exact (hF3.own.lt k hk).2))
   have HIN:=qh (hF4.ins_any (i:=FK) (key:=cc.key) (x:=xv) (cx:=f) (vb:=w4.heap.size) (by have:=HB0.out;have:=HBB.out;have:=HZ3.out;have:=hB34.size;simp;omega) HKO.out HNO.out HKS.out (((hW4.sepI.isVal).sub (Zd fun k hk hl=>⟨⟨⟨by have:=HB0.out;have:=HBB.out;have:=HZ3.out;have:w1.heap.size<=k:=hk;omega,by have:=HB0.out;have:=HZ3.out;have:w1.heap.size<=k:=hk;omega⟩,fun e=>by have:=hos k e;have:w1.heap.size<=k:=hk;omega⟩,by first|exact heap_alloc_old w4 _ k hl|exact heap_alloc_old w4 _ hl⟩)).more (by simp)) (heap_alloc_new w4 _) (fun e=>by have:=hos _ e;have:=hB34.size;omega))
   clear hW4 hb4 hB34 hF4 hos
   refine hK.out _ _ HK4.out (fun _=> ?_)
   clear hK K
   try simp only [Act.put,List.setIfInBounds_toArray,List.set_cons_zero,List.set_cons_succ]
   refine Zh (i:=18) (d:=some 55) (v:= ?_) rfl rfl (by kernel_rfl) (by kernel_rfl) (by kernel_rfl) (fun _ _ _ h=>h) (Or.inl ⟨by rfl, ?_⟩) (by assumption) ?_
   rotate_left
   .intro w' hSw
    obtain ⟨s7,s11,s12,s13,s14,s15⟩:=hSw
    go_simp
    all_goals (with_reducible rfl)
   simp only [Act.put,List.setIfInBounds_toArray,List.set_cons_zero,List.set_cons_succ]
   refine wpAnyH_ready (rs:= [5,19]) (by kernel_rfl) (by simp) ?_
   refine AllReadyH.cons rfl (fun K hK=> ?_) (AllReadyH.cons rfl (fun K hK=> ?_) AllReadyH.nil)
   .go_simp
    refine hK.out _ _ HK4.out (fun _=> ?_)
    clear hK K
    try simp only [Act.put,List.setIfInBounds_toArray,List.set_cons_zero,List.set_cons_succ]
    refine wpAnyH_ready (rs:= [19]) (by kernel_rfl) (by simp) ?_
    refine AllReadyH.cons rfl (fun K hK=> ?_) AllReadyH.nil
    go_simp
    refine hK.out _ _ HKA.out (fun _=> ?_)
    clear hK K
    try simp only [Act.put,List.setIfInBounds_toArray,List.set_cons_zero,List.set_cons_succ]
    refine wpAnyH_ready (rs:= [20]) (by kernel_rfl) (by simp) ?_
    refine AllReadyH.cons rfl (fun K hK=> ?_) AllReadyH.nil
    go_simp
    go_at_call 81
    (with_reducible refine HIN.out.mono ?_)
    rintro e w5 ⟨v5,rfl,⟨co5,hF5⟩,hg5,hu5⟩
    obtain ⟨a5,n5,c5,rfl⟩:=hF5.slice
    have BX5:=HFA.out.box.grown hg5 HFA.out.ne
    have j4:=BX5.fr 4;have m4:=BX5.at_ 4 _ rfl;have z5:=BX5.lt
    have HS5:=qh (HFA.out.stored HB0.out hF5 hg5 hu5)
    have HK5:=qh (HSP.out _ _ BX5)
    have HK6:=qh (HSP.out _ _ HS5.out.box)
    clear hF5 hg5 hu5 BX5
    refine hK.out _ _ HK5.out (fun _=> ?_)
    clear hK K
    try simp only [Act.put,List.setIfInBounds_toArray,List.set_cons_zero,List.set_cons_succ]
    refine Zh (i:=21) (d:=some 58) (v:= ?_) rfl rfl (by kernel_rfl) (by kernel_rfl) (by kernel_rfl) (fun _ _ _ h=>h) (Or.inl ⟨by rfl, ?_⟩) (by assumption) ?_
    rotate_left
    .intro w' hSw
     obtain ⟨s7,s11,s12,s13,s14,s15⟩:=hSw
     go_simp
     all_goals (with_reducible rfl)
    simp only [Act.put,List.setIfInBounds_toArray,List.set_cons_zero,List.set_cons_succ]
    refine Zh (i:=22) (d:=some 59) (v:= ?_) rfl rfl (by kernel_rfl) (by kernel_rfl) (by kernel_rfl) (fun _ _ _ h=>h) (Or.inl ⟨by rfl, ?_⟩) (by assumption) ?_
    rotate_left
    .intro w' hSw
     obtain ⟨s7,s11,s12,s13,s14,s15⟩:=hSw
     go_simp
     all_goals (with_reducible rfl)
    simp only [Act.put,List.setIfInBounds_toArray,List.set_cons_zero,List.set_cons_succ]
    refine Zh (i:=23) (d:=some 60) (v:= ?_) rfl rfl (by kernel_rfl) (by kernel_rfl) (by kernel_rfl) (fun _ _ _ h=>h) (Or.inl ⟨by rfl, ?_⟩) (by assumption) ?_
    rotate_left
    .intro w' hSw
     obtain ⟨s7,s11,s12,s13,s14,s15⟩:=hSw
     go_simp
     all_goals (with_reducible rfl)
    simp only [Act.put,List.setIfInBounds_toArray,List.set_cons_zero,List.set_cons_succ]
    refine wpAnyH_ready (rs:= [24]) (by kernel_rfl) (by simp) ?_
    refine AllReadyH.cons rfl (fun K hK=> ?_) AllReadyH.nil
    go_simp
    refine hK.out _ _ HK6.out (fun _=> ?_)
    clear hK K
    try simp only [Act.put,List.setIfInBounds_toArray,List.set_cons_zero,List.set_cons_succ]
    refine wpAnyH_done (by kernel_rfl) ?_ _
    refine NoPanic.normal ?_
    go_wp2_with fail
    have HFIN:=HS5.out.post HNL.out
    exact ⟨rfl, .tuple #[],by simp [results,Tryz.results44,go_sem],by rw [HR.out];exact HFIN⟩
   .go_simp
    refine hK.out _ _ HKA.out (fun _=> ?_)
    clear hK K
    try simp only [Act.put,List.setIfInBounds_toArray,List.set_cons_zero,List.set_cons_succ]
    refine wpAnyH_ready (rs:= [5]) (by kernel_rfl) (by simp) ?_
    refine AllReadyH.cons rfl (fun K hK=> ?_) AllReadyH.nil
    go_simp
    refine hK.out _ _ HKA.out (fun _=> ?_)
    clear hK K
    try simp only [Act.put,List.setIfInBounds_toArray,List.set_cons_zero,List.set_cons_succ]
    refine wpAnyH_ready (rs:= [20]) (by kernel_rfl) (by simp) ?_
    refine AllReadyH.cons rfl (fun K hK=> ?_) AllReadyH.nil
    go_simp
    go_at_call 81
    (with_reducible refine HIN.out.mono ?_)
    rintro e w5 ⟨v5,rfl,⟨co5,hF5⟩,hg5,hu5⟩
    obtain ⟨a5,n5,c5,rfl⟩:=hF5.slice
    have BX5:=HFA.out.box.grown hg5 HFA.out.ne
    have j4:=BX5.fr 4;have m4:=BX5.at_ 4 _ rfl;have z5:=BX5.lt
    have HS5:=qh (HFA.out.stored HB0.out hF5 hg5 hu5)
    have HK5:=qh (HSP.out _ _ BX5)
    have HK6:=qh (HSP.out _ _ HS5.out.box)
    clear hF5 hg5 hu5 BX5
    refine hK.out _ _ HK5.out (fun _=> ?_)
    clear hK K
    try simp only [Act.put,List.setIfInBounds_toArray,List.set_cons_zero,List.set_cons_succ]
    refine Zh (i:=21) (d:=some 58) (v:= ?_) rfl rfl (by kernel_rfl) (by kernel_rfl) (by kernel_rfl) (fun _ _ _ h=>h) (Or.inl ⟨by rfl, ?_⟩) (by assumption) ?_
    rotate_left
    .intro w' hSw
     obtain ⟨s7,s11,s12,s13,s14,s15⟩:=hSw
     go_simp
     all_goals (with_reducible rfl)
    simp only [Act.put,List.setIfInBounds_toArray,List.set_cons_zero,List.set_cons_succ]
    refine Zh (i:=22) (d:=some 59) (v:= ?_) rfl rfl (by kernel_rfl) (by kernel_rfl) (by kernel_rfl) (fun _ _ _ h=>h) (Or.inl ⟨by rfl, ?_⟩) (by assumption) ?_
    rotate_left
    .intro w' hSw
     obtain ⟨s7,s11,s12,s13,s14,s15⟩:=hSw
     go_simp
     all_goals (with_reducible rfl)
    simp only [Act.put,List.setIfInBounds_toArray,List.set_cons_zero,List.set_cons_succ]
    refine Zh (i:=23) (d:=some 60) (v:= ?_) rfl rfl (by kernel_rfl) (by kernel_rfl) (by kernel_rfl) (fun _ _ _ h=>h) (Or.inl ⟨by rfl, ?_⟩) (by assumption) ?_
    rotate_left
    .intro w' hSw
     obtain ⟨s7,s11,s12,s13,s14,s15⟩:=hSw
     go_simp
     all_goals (with_reducible rfl)
    simp only [Act.put,List.setIfInBounds_toArray,List.set_cons_zero,List.set_cons_succ]
    refine wpAnyH_ready (rs:= [24]) (by kernel_rfl) (by simp) ?_
    refine AllReadyH.cons rfl (fun K hK=> ?_) AllReadyH.nil
    go_simp
    refine hK.out _ _ HK6.out (fun _=> ?_)
    clear hK K
    try simp only [Act.put,List.setIfInBounds_toArray,List.set_cons_zero,List.set_cons_succ]
    refine wpAnyH_done (by kernel_rfl) ?_ _
    refine NoPanic.normal ?_
    go_wp2_with fail
    have HFIN:=HS5.out.post HNL.out
    exact ⟨rfl, .tuple #[],by simp [results,Tryz.results44,go_sem],by rw [HR.out];exact HFIN⟩
 )
set_option maxRecDepth 100000 in
theorem zq0 (w:World) (c:CC):
 uP 134 #[.agg (uC c)] w fun e w'=>e= .returned (.bool (decide (4<=c.k/\c.k<=7)))/\uB w w':=by
 delta uC uB uP
 have HBX:=qh (BC.start w #[.int .u8 c.k, .slice c.pa c.pl c.pc, .string c.key, .int .i64 c.i, .int .i64 c.j, .int .i64 c.n, .int .u8 c.v.k, .int .i64 c.v.n, .string c.v.s, .slice c.v.la c.v.ll c.v.lc, .slice c.v.oa c.v.ol c.v.oc, .string c.s] 39)
 have HAL:=qh ((Below.refl _ _).alloc (Nat.le_refl _) (.cells #[.int .u8 c.k, .slice c.pa c.pl c.pc, .string c.key, .int .i64 c.i, .int .i64 c.j, .int .i64 c.n, .int .u8 c.v.k, .int .i64 c.v.n, .string c.v.s, .slice c.v.la c.v.ll c.v.lc, .slice c.v.oa c.v.ol c.v.oc, .string c.s] 39):uB w _)
 obtain ⟨R,hR⟩:∃R,decide (4<=c.k/\c.k<=7)=R:=⟨_,rfl⟩
 rw [hR]
 obtain ⟨ck,hck⟩:∃ck,c.k=ck:=⟨_,rfl⟩
 rw [hck] at HBX HAL hR ⊢
 have HR:=qh hR
 clear hck hR
 by_cases e4:ck=4
 .cases e4
  obtain rfl:R=true:=by rw [<-HR.out];rfl
  go_enter Tryz.func134,Tryz.ntmps134
  go_wp2_with fail
  go_returns
  exact ⟨rfl,HAL.out⟩
 have f4:(ck==4)=false:=by simp [e4]
 by_cases e5:ck=5
 .cases e5
  obtain rfl:R=true:=by rw [<-HR.out];rfl
  go_enter Tryz.func134,Tryz.ntmps134
  go_wp2_with fail
  go_returns
  exact ⟨rfl,HAL.out⟩
 have f5:(ck==5)=false:=by simp [e5]
 by_cases e6:ck=6
 .cases e6
  obtain rfl:R=true:=by rw [<-HR.out];rfl
  go_enter Tryz.func134,Tryz.ntmps134
  go_wp2_with fail
  go_returns
  exact ⟨rfl,HAL.out⟩
 have f6:(ck==6)=false:=by simp [e6]
 by_cases e7:ck=7
 .cases e7
  obtain rfl:R=true:=by rw [<-HR.out];rfl
  go_enter Tryz.func134,Tryz.ntmps134
  go_wp2_with fail
  go_returns
  exact ⟨rfl,HAL.out⟩
 have f7:(ck==7)=false:=by simp [e7]
 obtain rfl:R=false:=by rw [<-HR.out];simp;omega
 go_enter Tryz.func134,Tryz.ntmps134
 go_wp2_with fail
 go_returns
 exact ⟨rfl,HAL.out⟩
set_option maxRecDepth 100000 in
theorem Q7 (w:World) (n:Nat) (hn:n<=9223372036854775807) (c:CC):
 uP 113 #[.int .i64 n, .agg #[.int .u8 c.k, .slice c.pa c.pl c.pc, .string c.key, .int .i64 c.i, .int .i64 c.j, .int .i64 c.n, .int .u8 c.v.k, .int .i64 c.v.n, .string c.v.s, .slice c.v.la c.v.ll c.v.lc, .slice c.v.oa c.v.ol c.v.oc, .string c.s]] w fun e w'=>e= .returned (.int .u16 (lCheck n c.k c.i c.j))/\uB w w':=by
 delta uB uP
 have HBX:=qh (BC.start w #[.int .u8 c.k, .slice c.pa c.pl c.pc, .string c.key, .int .i64 c.i, .int .i64 c.j, .int .i64 c.n, .int .u8 c.v.k, .int .i64 c.v.n, .string c.v.s, .slice c.v.la c.v.ll c.v.lc, .slice c.v.oa c.v.ol c.v.oc, .string c.s] 39)
 have HAL:=qh ((Below.refl _ _).alloc (Nat.le_refl _) (.cells #[.int .u8 c.k, .slice c.pa c.pl c.pc, .string c.key, .int .i64 c.i, .int .i64 c.j, .int .i64 c.n, .int .u8 c.v.k, .int .i64 c.v.n, .string c.v.s, .slice c.v.la c.v.ll c.v.lc, .slice c.v.oa c.v.ol c.v.oc, .string c.s] 39):uB w _)
 have HKN:Hid (∀W,uP 134 #[.agg #[.int .u8 c.k, .slice c.pa c.pl c.pc, .string c.key, .int .i64 c.i, .int .i64 c.j, .int .i64 c.n, .int .u8 c.v.k, .int .i64 c.v.n, .string c.v.s, .slice c.v.la c.v.ll c.v.lc, .slice c.v.oa c.v.ol c.v.oc, .string c.s]] W fun e w'=>e= .returned (.bool (decide (4<=c.k/\c.k<=7)))/\uB W w'):=fun W=>zq0 W c
 obtain ⟨KN,hKN⟩:∃KN,decide (4<=c.k/\c.k<=7)=KN:=⟨_,rfl⟩
 rw [hKN] at HKN
 obtain ⟨R,hR⟩:∃R,lCheck n c.k c.i c.j=R:=⟨_,rfl⟩
 rw [hR]
 rw [lCheck] at hR
 obtain ⟨ck,hck⟩:∃ck,c.k=ck:=⟨_,rfl⟩
 obtain ⟨ci,hci⟩:∃ci,c.i=ci:=⟨_,rfl⟩
 obtain ⟨cj,hcj⟩:∃cj,c.j=cj:=⟨_,rfl⟩
 rw [hck,hci,hcj] at hR HKN HBX HAL ⊢
 rw [hck] at hKN
 have HR:=qh hR
 have HKE:=qh hKN
 have hw1:IntKind.i64.wrap ((n:Int) - 1)=(n:Int) - 1:=IntWalk.i64_in _ (by omega)
 clear hR hck hci hcj hKN
 cases KN with
 | false=>
   have hk:¬(4<=ck/\ck<=7):=by simpa using HKE.out
   have f4:(ck==4)=false:=by simp;omega
   have HK:=qh hk
   clear hk
   obtain rfl:R=31:=by rw [<-HR.out];rw [if_pos HK.out]
   go_enter Tryz.func113,Tryz.ntmps113
   go_wp2_with fail
   refine (HKN.out _).mono ?_
   rintro e w1 ⟨rfl,hb1⟩
   have D:=HBX.out.keep hb1 (by simp)
   obtain ⟨b0,b1,b2,b3,b4,b5,b6,b7,b8,b9,b10,b11⟩:=row12 D.at_
   have zs:=D.lt
   have HBL:=qh (HAL.out.trans (hb1.mono (by simp)))
   clear D hb1
   go_wp2_with fail
   go_returns
   exact ⟨rfl,HBL.out⟩
 | true =>
   have hk:4<=ck/\ck<=7:=by simpa using HKE.out
   have HK:=qh hk
   clear hk
   by_cases h1:ci<0
   .obtain rfl:R=32:=by rw [<-HR.out,if_neg (fun h=>h HK.out),if_pos (.inl h1)]
    by_cases h4:ck=4
    .cases h4
     go_enter Tryz.func113,Tryz.ntmps113
     go_wp2_with fail
     refine (HKN.out _).mono ?_
     rintro e w1 ⟨rfl,hb1⟩
     have D:=HBX.out.keep hb1 (by simp)
     obtain ⟨b0,b1,b2,b3,b4,b5,b6,b7,b8,b9,b10,b11⟩:=row12 D.at_
     have zs:=D.lt
     have HBL:=qh (HAL.out.trans (hb1.mono (by simp)))
     clear D hb1
     go_wp2_with fail
     go_returns
     exact ⟨rfl,HBL.out⟩
    .have f4:(ck==4)=false:=by simp [h4]
     go_enter Tryz.func113,Tryz.ntmps113
     go_wp2_with fail
     refine (HKN.out _).mono ?_
     rintro e w1 ⟨rfl,hb1⟩
     have D:=HBX.out.keep hb1 (by simp)
     obtain ⟨b0,b1,b2,b3,b4,b5,b6,b7,b8,b9,b10,b11⟩:=row12 D.at_
     have zs:=D.lt
     have HBL:=qh (HAL.out.trans (hb1.mono (by simp)))
     clear D hb1
     go_wp2_with fail
     go_returns
     exact ⟨rfl,HBL.out⟩
   by_cases h4:ck=4
   .cases h4
    by_cases h2:(n:Int)<ci
    .obtain rfl:R=32:=by rw [<-HR.out];rw [if_neg (fun h=>h HK.out),if_pos (.inr (.inl h2))]
     go_enter Tryz.func113,Tryz.ntmps113
     go_wp2_with fail
     refine (HKN.out _).mono ?_
     rintro e w1 ⟨rfl,hb1⟩
     have D:=HBX.out.keep hb1 (by simp)
     obtain ⟨b0,b1,b2,b3,b4,b5,b6,b7,b8,b9,b10,b11⟩:=row12 D.at_
     have zs:=D.lt
     have HBL:=qh (HAL.out.trans (hb1.mono (by simp)))
     clear D hb1
     go_wp2_with fail
     go_returns
     exact ⟨rfl,HBL.out⟩
    obtain rfl:R=0:=by rw [<-HR.out];rw [if_neg (fun h=>h HK.out),if_neg (by omega),if_neg (by omega)]
    go_enter Tryz.func113,Tryz.ntmps113
    go_wp2_with fail
    refine (HKN.out _).mono ?_
    rintro e w1 ⟨rfl,hb1⟩
    have D:=HBX.out.keep hb1 (by simp)
    obtain ⟨b0,b1,b2,b3,b4,b5,b6,b7,b8,b9,b10,b11⟩:=row12 D.at_
    have zs:=D.lt
    have HBL:=qh (HAL.out.trans (hb1.mono (by simp)))
    clear D hb1
    go_wp2_with fail
    go_returns
    exact ⟨rfl,HBL.out⟩
   have f4:(ck==4)=false:=by simp [h4]
   by_cases h3:(n:Int) - 1<ci
   .obtain rfl:R=32:=by rw [<-HR.out];rw [if_neg (fun h=>h HK.out),if_pos (by omega)]
    go_enter Tryz.func113,Tryz.ntmps113
    go_wp2_with fail
    refine (HKN.out _).mono ?_
    rintro e w1 ⟨rfl,hb1⟩
    have D:=HBX.out.keep hb1 (by simp)
    obtain ⟨b0,b1,b2,b3,b4,b5,b6,b7,b8,b9,b10,b11⟩:=row12 D.at_
    have zs:=D.lt
    have HBL:=qh (HAL.out.trans (hb1.mono (by simp)))
    clear D hb1
    go_wp2_with fail
    go_returns
    exact ⟨rfl,HBL.out⟩
   by_cases h7:ck=7
   .cases h7
    by_cases h8:cj<0
    .obtain rfl:R=32:=by rw [<-HR.out];rw [if_neg (fun h=>h HK.out),if_neg (by omega),if_pos (by omega)]
     go_enter Tryz.func113,Tryz.ntmps113
     go_wp2_with fail
     refine (HKN.out _).mono ?_
     rintro e w1 ⟨rfl,hb1⟩
     have D:=HBX.out.keep hb1 (by simp)
     obtain ⟨b0,b1,b2,b3,b4,b5,b6,b7,b8,b9,b10,b11⟩:=row12 D.at_
     have zs:=D.lt
     have HBL:=qh (HAL.out.trans (hb1.mono (by simp)))
     clear D hb1
     go_wp2_with fail
     go_returns
     exact ⟨rfl,HBL.out⟩
    .by_cases h9:(n:Int)<=cj
     .obtain rfl:R=32:=by rw [<-HR.out];rw [if_neg (fun h=>h HK.out),if_neg (by omega),if_pos (by omega)]
      go_enter Tryz.func113,Tryz.ntmps113
      go_wp2_with fail
      refine (HKN.out _).mono ?_
      rintro e w1 ⟨rfl,hb1⟩
      have D:=HBX.out.keep hb1 (by simp)
      obtain ⟨b0,b1,b2,b3,b4,b5,b6,b7,b8,b9,b10,b11⟩:=row12 D.at_
      have zs:=D.lt
      have HBL:=qh (HAL.out.trans (hb1.mono (by simp)))
      clear D hb1
      go_wp2_with fail
      go_returns
      exact ⟨rfl,HBL.out⟩
     .obtain rfl:R=0:=by rw [<-HR.out];rw [if_neg (fun h=>h HK.out),if_neg (by omega),if_neg (by omega)]
      go_enter Tryz.func113,Tryz.ntmps113
      go_wp2_with fail
      refine (HKN.out _).mono ?_
      rintro e w1 ⟨rfl,hb1⟩
      have D:=HBX.out.keep hb1 (by simp)
      obtain ⟨b0,b1,b2,b3,b4,b5,b6,b7,b8,b9,b10,b11⟩:=row12 D.at_
      have zs:=D.lt
      have HBL:=qh (HAL.out.trans (hb1.mono (by simp)))
      clear D hb1
      go_wp2_with fail
      go_returns
      exact ⟨rfl,HBL.out⟩
   .have f7:(ck==7)=false:=by simp [h7]
    obtain rfl:R=0:=by rw [<-HR.out];rw [if_neg (fun h=>h HK.out),if_neg (by omega),if_neg (by omega)]
    go_enter Tryz.func113,Tryz.ntmps113
    go_wp2_with fail
    refine (HKN.out _).mono ?_
    rintro e w1 ⟨rfl,hb1⟩
    have D:=HBX.out.keep hb1 (by simp)
    obtain ⟨b0,b1,b2,b3,b4,b5,b6,b7,b8,b9,b10,b11⟩:=row12 D.at_
    have zs:=D.lt
    have HBL:=qh (HAL.out.trans (hb1.mono (by simp)))
    clear D hb1
    go_wp2_with fail
    go_returns
    exact ⟨rfl,HBL.out⟩
theorem VRow.vals {w:World} {base:Nat} {u:Value} {l:List V} {cl:List VC} (h:VRow w base u l cl) (hfew:l.length<=1466015503701):∃a n c,u= .slice a n c/\IsVals (only (fun b=>base<=b) w) w.heap.size l a n c/\Neat2 a c:=by
 refine Qt h.own (Nat.le_refl _) h.len (fun i hi=> ?_) hfew
 intro hi'
 have e:cl.getD i vzero=cl[i]'(by have:=h.len;omega):=by rw [List.getD_eq_getElem?_getD,List.getElem?_eq_getElem (by have:=h.len;omega)];rfl
 rw [e]
 exact (h.els i hi (by have:=h.len;omega)).sub (Zd fun k hk _=>⟨⟨hk.1,fun e=>hk.2 e.symm⟩,rfl⟩)
theorem Kt (w:World) (l:List V) (a:Option Addr) (n c:Nat) (hl:IsVals w w.heap.size l a n c):
 uP 78 #[.agg (uU 0 0 { data:= #[] } a n c none 0 0)] w fun e w'=>(∃(d:VC) (cl:List VC),e= .returned (.agg #[.int .u8 d.k, .int .i64 d.n, .string d.s, .slice d.la d.ll d.lc, .slice d.oa d.ol d.oc])/\VRow w' w.heap.size (.slice d.la d.ll d.lc) l cl)/\uB w w':=by
 delta uU uB uP
 have hv:IsVal w w.heap.size (.mk 0 0 .empty l []) ⟨0,0, .empty,a,n,c,none,0,0⟩:=
  IsVal.of_lists (c:=⟨0,0, .empty,a,n,c,none,0,0⟩) ⟨by show (0:Int)<=0;decide,by show (0:Int)<256;decide,by show (-9223372036854775808:Int)<=0;decide,by show (0:Int)<=9223372036854775807;decide,by show ByteArray.empty.size<=140737488355328;decide,hl.cap,hl.max,hl.few,by show (0:Nat)<=0;decide,by show (0:Nat)<=9223372036854775807;decide,by show (0:Nat)<=1466015503701;decide⟩ hl (zay w _)
 refine (Xa w (.mk 0 0 .empty l []) ⟨0,0, .empty,a,n,c,none,0,0⟩ hv).mono ?_
 rintro e w' ⟨⟨d,rfl,hW⟩,hb⟩
 obtain ⟨cl,h⟩:=VRow.of hW (l:=l) rfl
 exact ⟨⟨d,cl,rfl,h⟩,hb⟩
def SeqPost (w:World) (r:List V) (e:Ending) (w':World):Prop:=
 (∃a n c,e= .returned (.tuple #[.slice a n c, .int .u16 0])/\IsVals (only (fun b=>w.heap.size<=b) w') w'.heap.size r a n c)/\Below w.heap.size w w'
theorem IsVals.cut {w:World} {B:Nat} {l:List V} {a:Option Addr} {n c:Nat} (h:IsVals w B l a n c):IsVals w B l a n n:=⟨h.len,Nat.le_refl _,Nat.le_trans h.cap h.max,h.few,h.at_⟩
set_option maxRecDepth 100000 in
theorem zgo (w:World) (l:List V) (a:Option Addr) (n c:Nat) (hl:IsVals w w.heap.size l a n c) (hfew:n<=100000000) (cc:CC) (x:V) (hc:lCheck n cc.k cc.i cc.j=0) (hk:cc.k=5):
 uP 82 #[.slice a n c, .agg #[.int .u8 cc.k, .slice cc.pa cc.pl cc.pc, .string cc.key, .int .i64 cc.i, .int .i64 cc.j, .int .i64 cc.n, .int .u8 cc.v.k, .int .i64 cc.v.n, .string cc.v.s, .slice cc.v.la cc.v.ll cc.v.lc, .slice cc.v.oa cc.v.ol cc.v.oc, .string cc.s]] w (SeqPost w (listDo l cc.k cc.i cc.j x)):=by
 delta uP
 have hmax:=hl.max
 have hlen:=hl.len
 obtain ⟨_,_,hi0,hi1,hi2,hj⟩:=Yx hc
 have HCK:Hid (∀W,uP 113 #[.int .i64 n, .agg #[.int .u8 cc.k, .slice cc.pa cc.pl cc.pc, .string cc.key, .int .i64 cc.i, .int .i64 cc.j, .int .i64 cc.n, .int .u8 cc.v.k, .int .i64 cc.v.n, .string cc.v.s, .slice cc.v.la cc.v.ll cc.v.lc, .slice cc.v.oa cc.v.ol cc.v.oc, .string cc.s]] W fun e w'=>e= .returned (.int .u16 0)/\uB W w'):=fun W=>by
  have:=Q7 W n (by omega) cc
  rw [hc] at this;exact this
 have HOW:Hid (∀W,uB w W->uP 78 #[.agg #[.int .u8 0, .int .i64 0, .string { data:= #[] }, .slice a n c, .slice none 0 0]] W fun e w'=>(∃(d:VC) (cl:List VC),e= .returned (.agg #[.int .u8 d.k, .int .i64 d.n, .string d.s, .slice d.la d.ll d.lc, .slice d.oa d.ol d.oc])/\VRow w' W.heap.size (.slice d.la d.ll d.lc) l cl)/\uB W w'):=fun W hW=>Kt W l a n c (hl.later_ hW)
 have HBX:=qh (BC.start w #[.int .u8 cc.k, .slice cc.pa cc.pl cc.pc, .string cc.key, .int .i64 cc.i, .int .i64 cc.j, .int .i64 cc.n, .int .u8 cc.v.k, .int .i64 cc.v.n, .string cc.v.s, .slice cc.v.la cc.v.ll cc.v.lc, .slice cc.v.oa cc.v.ol cc.v.oc, .string cc.s] 39)
 have HAL:=qh ((Below.refl _ _).alloc (Nat.le_refl _) (.cells #[.int .u8 cc.k, .slice cc.pa cc.pl cc.pc, .string cc.key, .int .i64 cc.i, .int .i64 cc.j, .int .i64 cc.n, .int .u8 cc.v.k, .int .i64 cc.v.n, .string cc.v.s, .slice cc.v.la cc.v.ll cc.v.lc, .slice cc.v.oa cc.v.ol cc.v.oc, .string cc.s] 39):uB w _)
 obtain ⟨R,hR⟩:∃R,listDo l cc.k cc.i cc.j x=R:=⟨_,rfl⟩
 rw [hR]
 rw [listDo,hk] at hR
 have HL:=qh hlen
 obtain ⟨i,hi⟩:∃i:Nat,cc.i=i:=⟨cc.i.toNat,by omega⟩
 rw [hi] at hR hi1 hi2
 rw [hk,hi] at HCK HBX HAL ⊢
 rw [Int.toNat_natCast] at hR
 have hil:i<n:=by have:=hi2 (by omega);omega
 have hw1:IntKind.i64.wrap ((i:Int)+1)=(i:Int)+1:=IntWalk.i64_in _ (by omega)
 obtain rfl:R=remL l i:=by rw [<-hR];rfl
 clear hl hc hlen hR hi hi0 hj hi1 hi2
 go_enter Tryz.func82,Tryz.ntmps82
 go_wp2_with fail
 refine (HCK.out _).mono ?_
 rintro e w1 ⟨rfl,hb1⟩
 have HD1:=qh (HBX.out.keep hb1 (by simp))
 have HBL1:=qh (HAL.out.trans (hb1.mono (by simp)))
 clear hb1
 go_wp2_with fail
 refine (HOW.out _ HBL1.out).mono ?_
 rintro e w2 ⟨⟨d,cl,rfl,hV⟩,hb2⟩
 have D2:=HD1.out.keep hb2 HD1.out.lt
 obtain ⟨b0,b1,b2,b3,b4,b5,b6,b7,b8,b9,b10,b11⟩:=row12 D2.at_
 have zs2:=D2.lt
 have HBL2:=qh (HBL1.out.trans (hb2.mono HBL1.out.size))
 have HW12:=qh hb2.size
 have HV:=qh hV
 have hfld:=Xl w2 d.k d.n d.s d.la d.ll d.lc d.oa d.ol d.oc
 have HDL:=qh (zes w2 w1.heap.size l.length i (.slice d.la d.ll d.lc) (cl.flatMap vcells) hV.own (by have:=HL.out;omega) (Ya cl))
 clear hb2 hV D2
 go_wp2_with fail
 refine HDL.out.mono ?_
 rintro e w3 ⟨v',rfl,ho,hg,hu⟩
 have hV3:=HV.out.rem (by have:=HL.out;omega) ho hg hu
 have hlr:(remL l i).length<=1466015503701:=by have:=HL.out;simp [remL];omega
 obtain ⟨a3,n3,c3,rfl,hI,hz⟩:=hV3.vals hlr
 have HB3:=qh (HBL2.out.trans ((Zj hg (fun k hk=>(HV.out.own.lt k hk).1) (by have:=HW12.out;omega)).mono HBL1.out.size))
 have hcap:=hI.cap;have hmx:=hI.max
 have HI:=qh (Xm hI HBL1.out.size (Below.refl _ _)).cut
 clear ho hg hu hV3 hI hlr
 rcases hz with ⟨rfl,rfl⟩|⟨b3',off3,rfl⟩
 .obtain rfl:n3=0:=by omega
  go_wp2_with fail
  go_returns
  exact ⟨⟨_,_,_,rfl,HI.out⟩,HB3.out⟩
 .go_wp2_with fail
  go_returns
  exact ⟨⟨_,_,_,rfl,HI.out⟩,HB3.out⟩
theorem VRow.later {w w':World} {base:Nat} {u:Value} {l:List V} {cl:List VC} (h:VRow w base u l cl) (hb:uB w w'):VRow w' base u l cl:=
 ⟨h.len,h.own.kept (row:=none) ⟨hb.os,hb.tape,hb.output,hb.size,fun k hk _=>hb.block k hk⟩ (by cases hv:u.ownBlock<;>simp),fun i hi hi'=>((h.els i hi hi').sub (Zd fun k hk hl=>⟨hk,hb.block k hl⟩)).more hb.size⟩
set_option maxRecDepth 100000 in
theorem zi5 (w:World) (l:List V) (a:Option Addr) (n c:Nat) (hl:IsVals w w.heap.size l a n c) (hfew:n<=100000000) (cc:CC) (x:V) (hx:IsVal w w.heap.size x cc.v) (hc:lCheck n cc.k cc.i cc.j=0) (hk:cc.k=4):
 uP 82 #[.slice a n c, .agg #[.int .u8 cc.k, .slice cc.pa cc.pl cc.pc, .string cc.key, .int .i64 cc.i, .int .i64 cc.j, .int .i64 cc.n, .int .u8 cc.v.k, .int .i64 cc.v.n, .string cc.v.s, .slice cc.v.la cc.v.ll cc.v.lc, .slice cc.v.oa cc.v.ol cc.v.oc, .string cc.s]] w (SeqPost w (listDo l cc.k cc.i cc.j x)):=by
 delta uP
 have hmax:=hl.max
 have hlen:=hl.len
 obtain ⟨_,_,hi0,hi1,hi2,hj⟩:=Yx hc
 have HCK:Hid (∀W,uP 113 #[.int .i64 n, .agg #[.int .u8 cc.k, .slice cc.pa cc.pl cc.pc, .string cc.key, .int .i64 cc.i, .int .i64 cc.j, .int .i64 cc.n, .int .u8 cc.v.k, .int .i64 cc.v.n, .string cc.v.s, .slice cc.v.la cc.v.ll cc.v.lc, .slice cc.v.oa cc.v.ol cc.v.oc, .string cc.s]] W fun e w'=>e= .returned (.int .u16 0)/\uB W w'):=fun W=>by
  have:=Q7 W n (by omega) cc
  rw [hc] at this;exact this
 have HOW:Hid (∀W,uB w W->uP 78 #[.agg #[.int .u8 0, .int .i64 0, .string { data:= #[] }, .slice a n c, .slice none 0 0]] W fun e w'=>(∃(d:VC) (cl:List VC),e= .returned (.agg #[.int .u8 d.k, .int .i64 d.n, .string d.s, .slice d.la d.ll d.lc, .slice d.oa d.ol d.oc])/\VRow w' W.heap.size (.slice d.la d.ll d.lc) l cl)/\uB W w'):=fun W hW=>Kt W l a n c (hl.later_ hW)
 have HCV:Hid (∀W,uB w W->uP 78 #[.agg #[.int .u8 cc.v.k, .int .i64 cc.v.n, .string cc.v.s, .slice cc.v.la cc.v.ll cc.v.lc, .slice cc.v.oa cc.v.ol cc.v.oc]] W fun e w'=>(∃f:VC,e= .returned (.agg #[.int .u8 f.k, .int .i64 f.n, .string f.s, .slice f.la f.ll f.lc, .slice f.oa f.ol f.oc])/\Whole w' W.heap.size x f)/\uB W w'):=fun W hW=>Xa W x cc.v (hx.later_ hW)
 have HBX:=qh (BC.start w #[.int .u8 cc.k, .slice cc.pa cc.pl cc.pc, .string cc.key, .int .i64 cc.i, .int .i64 cc.j, .int .i64 cc.n, .int .u8 cc.v.k, .int .i64 cc.v.n, .string cc.v.s, .slice cc.v.la cc.v.ll cc.v.lc, .slice cc.v.oa cc.v.ol cc.v.oc, .string cc.s] 39)
 have HAL:=qh ((Below.refl _ _).alloc (Nat.le_refl _) (.cells #[.int .u8 cc.k, .slice cc.pa cc.pl cc.pc, .string cc.key, .int .i64 cc.i, .int .i64 cc.j, .int .i64 cc.n, .int .u8 cc.v.k, .int .i64 cc.v.n, .string cc.v.s, .slice cc.v.la cc.v.ll cc.v.lc, .slice cc.v.oa cc.v.ol cc.v.oc, .string cc.s] 39):uB w _)
 obtain ⟨R,hR⟩:∃R,listDo l cc.k cc.i cc.j x=R:=⟨_,rfl⟩
 rw [hR]
 rw [listDo,hk] at hR
 have HL:=qh hlen
 obtain ⟨i,hi⟩:∃i:Nat,cc.i=i:=⟨cc.i.toNat,by omega⟩
 rw [hi] at hR hi1 hi2
 rw [hk,hi] at HCK HBX HAL ⊢
 rw [Int.toNat_natCast] at hR
 have hil:i<=n:=by omega
 have hw1:IntKind.i64.wrap ((i:Int)+1)=(i:Int)+1:=IntWalk.i64_in _ (by omega)
 obtain rfl:R=insL l i x:=by rw [<-hR];rfl
 clear hl hx hc hlen hR hi hi0 hj hi1 hi2
 go_enter Tryz.func82,Tryz.ntmps82
 go_wp2_with fail
 refine (HCK.out _).mono ?_
 rintro e w1 ⟨rfl,hb1⟩
 have HD1:=qh (HBX.out.keep hb1 (by simp))
 have HBL1:=qh (HAL.out.trans (hb1.mono (by simp)))
 clear hb1
 go_wp2_with fail
 refine (HOW.out _ HBL1.out).mono ?_
 rintro e w2 ⟨⟨d,cl,rfl,hV⟩,hb2⟩
 have D2:=HD1.out.keep hb2 HD1.out.lt
 obtain ⟨b0,b1,b2,b3,b4,b5,b6,b7,b8,b9,b10,b11⟩:=row12 D2.at_
 have zs2:=D2.lt
 have HBL2:=qh (HBL1.out.trans (hb2.mono HBL1.out.size))
 have HW12:=qh hb2.size
 have HV:=qh hV
 have hfld:=Xl w2 d.k d.n d.s d.la d.ll d.lc d.oa d.ol d.oc
 have HD2:=qh D2
 have HBD:=qh (HBL2.out.drew)
 clear hb2 hV D2
 go_wp2_with fail
 go_region_with (first
  |(go_simp;go_at_call 78;(with_reducible refine (HCV.out _ HBD.out).mono ?_);rintro e w4 ⟨⟨f,rfl,hW4⟩,hb4⟩;have hB24:uB w2 w4:=(Zf w2).trans hb4;have D4:=HD2.out.keep hB24 zs2;have q3:=D4.at_ 3 _ rfl;have zs4:=D4.lt;have HB24:=qh hB24;have HW4:Hid (Whole w4 w2.heap.size x f):=qh hW4;have HIN:=qh (zfd (w4.alloc (.cells #[.int .u8 f.k, .int .i64 f.n, .string f.s, .slice f.la f.ll f.lc, .slice f.oa f.ol f.oc] 36)) w1.heap.size l.length i w4.heap.size 36 (.slice d.la d.ll d.lc) (vcells f) (cl.flatMap vcells) (HV.out.later (hB24.trans (((Below.refl _ _).alloc (Nat.le_refl _) _).mono hB24.size))).own (by have:=HW12.out;have:=hB24.size;simp;omega) (by have:=HL.out;omega) (by have:=HL.out;omega) (heap_alloc_new w4 _) (fun e=>by have:=(HV.out.own.lt _ e).2;have:=hB24.size;omega) rfl (by simp [vcells,Value.oneCell']) (Ya cl));clear hW4 hb4 hB24 D4)
  |(go_simp;go_at_call 122;(with_reducible refine HIN.out.mono ?_);rintro e w5 ⟨v',rfl,ho,hg,hu⟩;have HO:=qh ho;have HG:=qh hg;have HU:=qh hu;clear ho hg hu))
 all_goals (
  have hBA:=HB24.out.trans (((Below.refl w4.heap.size w4).alloc (Nat.le_refl _) (.cells #[.int .u8 f.k, .int .i64 f.n, .string f.s, .slice f.la f.ll f.lc, .slice f.oa f.ol f.oc] 36)).mono HB24.out.size)
  have hIA:IsVal (only (fun k=>w1.heap.size<=k/\(Value.slice d.la d.ll d.lc).ownBlock≠some k) (w4.alloc (.cells #[.int .u8 f.k, .int .i64 f.n, .string f.s, .slice f.la f.ll f.lc, .slice f.oa f.ol f.oc] 36))) (w4.alloc (.cells #[.int .u8 f.k, .int .i64 f.n, .string f.s, .slice f.la f.ll f.lc, .slice f.oa f.ol f.oc] 36)).heap.size x f:=((HW4.out.sepI.isVal).sub (Zd fun k hk hl=>⟨⟨by have:=HW12.out;omega,fun e=>by have:=(HV.out.own.lt _ e).2;omega⟩,by first|exact heap_alloc_old w4 _ k hl|exact heap_alloc_old w4 _ hl⟩)).more (by simp)
  have hV5:=(HV.out.later hBA).ins (by have:=HL.out;omega) hIA HO.out HG.out HU.out
  have hlr:(insL l i x).length<=1466015503701:=by have:=HL.out;simp [insL];omega
  obtain ⟨a3,n3,c3,rfl,hI,hz⟩:=hV5.vals hlr
  have HB3:=qh ((HBL2.out.trans (hBA.mono HBL2.out.size)).trans ((Zj HG.out (fun k hk=>(HV.out.own.lt k hk).1) (by have:=HW12.out;have:=HB24.out.size;simp;omega)).mono HBL1.out.size))
  have hcap:=hI.cap
  have hmx:=hI.max
  have HI:=qh (Xm hI HBL1.out.size (Below.refl _ _)).cut
  clear hBA hIA hV5 hI hlr HO HG HU HIN
  rcases hz with ⟨rfl,rfl⟩|⟨b3',off3,rfl⟩
  .obtain rfl:n3=0:=by omega
   go_wp2_with fail
   go_returns
   exact ⟨⟨_,_,_,rfl,HI.out⟩,HB3.out⟩
  .go_wp2_with fail
   go_returns
   exact ⟨⟨_,_,_,rfl,HI.out⟩,HB3.out⟩)
theorem VRow.del_any {W:World} {base i:Nat} {u:Value} {l:List V} {cl:List VC} (h:VRow W base u l cl) (hi:i<l.length):
 uP 123 #[u, .int .i64 (i:Int), .int .i64 ((i:Int)+1)] W fun e w'=>∃v',e= .returned v'/\(∃cl',VRow w' base v' (remL l i) cl')/\(∀x cx,IsVal (only (fun k=>base<=k/\u.ownBlock≠some k) W) W.heap.size x cx->IsVal (only (fun k=>base<=k/\v'.ownBlock≠some k) w') w'.heap.size x cx)/\W.grownBy w' u.ownBlock/\(v'.ownBlock=u.ownBlock∨v'.ownBlock=some W.heap.size):=by
 delta uP
 refine (zes W base l.length i u (cl.flatMap vcells) h.own hi (Ya cl)).mono ?_
 rintro e w' ⟨v',rfl,ho,hg,hu⟩
 exact ⟨v',rfl,⟨_,h.rem hi ho hg hu⟩,fun x cx hx=>hx.rowed hg hu,hg,hu⟩
theorem VRow.ins_any {W:World} {base i vb:Nat} {u:Value} {l:List V} {cl:List VC} {x:V} {cx:VC} (h:VRow W base u l cl) (hB:base<=W.heap.size) (hi:i<=l.length) (hn:l.length+1<=1466015503701) (hx:IsVal (only (fun k=>base<=k/\u.ownBlock≠some k) W) W.heap.size x cx)
 (hvb:W.heap[vb]? =some (.cells #[.int .u8 cx.k, .int .i64 cx.n, .string cx.s, .slice cx.la cx.ll cx.lc, .slice cx.oa cx.ol cx.oc] 36 (0,0))) (hne:u.ownBlock≠some vb):
 uP 122 #[u, .int .i64 (i:Int), .slice (some ⟨vb,0,none⟩) 1 1] W fun e w'=>∃v',e= .returned v'/\(∃cl',VRow w' base v' (insL l i x) cl')/\W.grownBy w' u.ownBlock:=by
 delta uP
 refine (zfd W base l.length i vb 36 u (vcells cx) (cl.flatMap vcells) h.own hB hi hn hvb hne rfl (by simp [vcells,Value.oneCell']) (Ya cl)).mono ?_
 rintro e w' ⟨v',rfl,ho,hg,hu⟩
 exact ⟨v',rfl,⟨_,h.ins hi hx ho hg hu⟩,hg⟩
theorem zoy (w:World) (o:Obj) {k:Nat} (h:k<w.heap.size):(w.alloc o).heap[k]? =w.heap[k]? :=((Below.refl w.heap.size w).alloc (Nat.le_refl _) o).block k h
end Go.Proofs.YtnjgbiachcfigaaGreatDoor
