/-
  Contracts of the functions that the law reaches: comp.Same and conciliatorref06.Same: two.
-/
import Derived.Test.YtnjgbiachcfigaaGreatDoorIw18
import Derived.Test.YtnjgbiachcfigaaGreatDoorIw32
namespace Go.Proofs.YtnjgbiachcfigaaGreatDoor
open Go.RowKit
set_option maxHeartbeats 8000000
set_option maxRecDepth 100000 in
theorem zaf (x y:Cm) (w:World) (c d:CC) (hx:IsComp w w.heap.size x c) (hy:IsComp w w.heap.size y d):
 uP 29 #[.agg (uC c), .agg (uC d)] w fun e w'=>e= .returned (.bool (eqB x y))/\uB w w':=by
 delta uC uB uP
 cases hx with
 |mk c p v hb hp hv=>
 cases hy with
 |mk d q u hb' hq hu=>
 have HV:Hid (∀W,uB w W->uP 17 #[.agg (uV c.v), .agg (uV d.v)] W fun e w'=>e= .returned (.bool (eqv v u))/\uB W w'):=fun W hW=>J3 v u W c.v d.v (hv.later_ hW) (hu.later_ hW)
 have HP:Hid (∀W,uB w W->uP 67 #[.slice c.pa c.pl c.pc, .slice d.pa d.pl d.pc] W fun e w'=>e= .returned (.bool (eqB p q))/\uB W w'):=fun W hW=>zmp p q W _ _ _ _ _ _ (hp.later_ hW) (hq.later_ hW)
 obtain ⟨R,hR⟩:∃R,eqB (Cm.mk c.k p c.key c.i c.j c.n v c.s) (Cm.mk d.k q d.key d.i d.j d.n u d.s)=R:=⟨_,rfl⟩
 rw [hR]
 have HR:=qh hR
 clear hR hb hp hv hb' hq hu
 by_cases e0:c.k=d.k
 case neg=>
  have f0:(c.k==d.k)=false:=by simp [e0]
  have H0:=qh e0
  clear e0
  go_enter Tryz.func29,Tryz.ntmps29
  go_wp2_with fail
  go_ret
  exact ⟨Zc (by rw [<-HR.out];exact (Cm.ne (Or.inl H0.out)).symm),((Below.refl _ _).alloc (Nat.le_refl _) _).alloc (by simp) _⟩
 have f0:(c.k==d.k)=true:=by simp [e0]
 have H0:=qh e0
 clear e0
 by_cases e1:c.key.toList=d.key.toList
 case neg=>
  have f1:(c.key.toList==d.key.toList)=false:=by simp [e1]
  have H1:=qh e1
  clear e1
  go_enter Tryz.func29,Tryz.ntmps29
  go_wp2_with fail
  go_ret
  exact ⟨Zc (by rw [<-HR.out];exact (Cm.ne (Or.inr<| .inl H1.out)).symm),((Below.refl _ _).alloc (Nat.le_refl _) _).alloc (by simp) _⟩
 have f1:(c.key.toList==d.key.toList)=true:=by simp [e1]
 have H1:=qh e1
 clear e1
 by_cases e2:c.i=d.i
 case neg=>
  have f2:(c.i==d.i)=false:=by simp [e2]
  have H2:=qh e2
  clear e2
  go_enter Tryz.func29,Tryz.ntmps29
  go_wp2_with fail
  go_ret
  exact ⟨Zc (by rw [<-HR.out];exact (Cm.ne (Or.inr<| .inr<| .inl H2.out)).symm),((Below.refl _ _).alloc (Nat.le_refl _) _).alloc (by simp) _⟩
 have f2:(c.i==d.i)=true:=by simp [e2]
 have H2:=qh e2
 clear e2
 by_cases e3:c.j=d.j
 case neg=>
  have f3:(c.j==d.j)=false:=by simp [e3]
  have H3:=qh e3
  clear e3
  go_enter Tryz.func29,Tryz.ntmps29
  go_wp2_with fail
  go_ret
  exact ⟨Zc (by rw [<-HR.out];exact (Cm.ne (Or.inr<| .inr<| .inr<| .inl H3.out)).symm),((Below.refl _ _).alloc (Nat.le_refl _) _).alloc (by simp) _⟩
 have f3:(c.j==d.j)=true:=by simp [e3]
 have H3:=qh e3
 clear e3
 by_cases e4:c.n=d.n
 case neg=>
  have f4:(c.n==d.n)=false:=by simp [e4]
  have H4:=qh e4
  clear e4
  go_enter Tryz.func29,Tryz.ntmps29
  go_wp2_with fail
  go_ret
  exact ⟨Zc (by rw [<-HR.out];exact (Cm.ne (Or.inr<| .inr<| .inr<| .inr<| .inl H4.out)).symm),((Below.refl _ _).alloc (Nat.le_refl _) _).alloc (by simp) _⟩
 have f4:(c.n==d.n)=true:=by simp [e4]
 have H4:=qh e4
 clear e4
 by_cases e5:c.s.toList=d.s.toList
 case neg=>
  have f5:(c.s.toList==d.s.toList)=false:=by simp [e5]
  have H5:=qh e5
  clear e5
  go_enter Tryz.func29,Tryz.ntmps29
  go_wp2_with fail
  go_ret
  exact ⟨Zc (by rw [<-HR.out];exact (Cm.ne (Or.inr<| .inr<| .inr<| .inr<| .inr<| .inl H5.out)).symm),((Below.refl _ _).alloc (Nat.le_refl _) _).alloc (by simp) _⟩
 have f5:(c.s.toList==d.s.toList)=true:=by simp [e5]
 have H5:=qh e5
 clear e5
 cases ev:eqv v u with
 | false=>
   have EV:=qh ev
   rw [ev] at HV
   clear ev
   go_enter Tryz.func29,Tryz.ntmps29
   go_wp2_with (first|(go_at_call 17;refine (HV.out _ (((Below.refl _ _).alloc (Nat.le_refl _) _).alloc (by simp) _)).mono ?_;rintro e w1 ⟨rfl,hb1⟩;have q1:=hb1.cellA 1 _ rfl;have q2:=hb1.cellB 1 _ rfl)|(go_at_call 67;refine (HP.out _ hb1.two).mono ?_;rintro e w2 ⟨rfl,hb2⟩))
   go_ret
   exact ⟨Zc (by rw [<-HR.out];exact (Cm.ne (Or.inr<| .inr<| .inr<| .inr<| .inr<| .inr<| .inl EV.out)).symm),hb1.two⟩
 | true=>
   have EV:=qh ev
   rw [ev] at HV
   clear ev
   cases eb:eqB p q with
   | false=>
     have HB:=qh eb
     rw [eb] at HP
     clear eb
     go_enter Tryz.func29,Tryz.ntmps29
     go_wp2_with (first|(go_at_call 17;refine (HV.out _ (((Below.refl _ _).alloc (Nat.le_refl _) _).alloc (by simp) _)).mono ?_;rintro e w1 ⟨rfl,hb1⟩;have q1:=hb1.cellA 1 _ rfl;have q2:=hb1.cellB 1 _ rfl)|(go_at_call 67;refine (HP.out _ hb1.two).mono ?_;rintro e w2 ⟨rfl,hb2⟩))
     go_ret
     exact ⟨Zc (by rw [<-HR.out];exact (Cm.ne (Or.inr<| .inr<| .inr<| .inr<| .inr<| .inr<| .inr HB.out)).symm),hb1.two.on hb2 hb1.two.size⟩
   | true=>
     have HB:=qh eb
     rw [eb] at HP
     clear eb
     go_enter Tryz.func29,Tryz.ntmps29
     go_wp2_with (first|(go_at_call 17;refine (HV.out _ (((Below.refl _ _).alloc (Nat.le_refl _) _).alloc (by simp) _)).mono ?_;rintro e w1 ⟨rfl,hb1⟩;have q1:=hb1.cellA 1 _ rfl;have q2:=hb1.cellB 1 _ rfl)|(go_at_call 67;refine (HP.out _ hb1.two).mono ?_;rintro e w2 ⟨rfl,hb2⟩))
     go_ret
     exact ⟨Zc (by rw [<-HR.out];exact (Cm.same H0.out H1.out H2.out H3.out H4.out H5.out EV.out HB.out).symm),hb1.two.on hb2 hb1.two.size⟩
structure Ba where
 k:Int
 path:List St
 key:ByteArray
 i:Int
 j:Int
 n:Int
 s:ByteArray
 v:List Tk
structure BA where
 k:Int
 pa:Option Addr
 pl:Nat
 pc:Nat
 key:ByteArray
 i:Int
 j:Int
 n:Int
 s:ByteArray
 va:Option Addr
 vl:Nat
 vc:Nat
structure BA.Bnd (c:BA):Prop where
 k0:0<=c.k
 k1:c.k<256
 i0: -9223372036854775808<=c.i
 i1:c.i<=9223372036854775807
 j0: -9223372036854775808<=c.j
 j1:c.j<=9223372036854775807
 n0: -9223372036854775808<=c.n
 n1:c.n<=9223372036854775807
 key1:c.key.size<=140737488355328
 s1:c.s.size<=140737488355328
inductive IsBare (w:World) (B:Nat):Ba->BA->Prop
 |mk (c:BA) (p:List St) (v:List Tk) (hb:c.Bnd) (hp:IsSteps w B p c.pa c.pl c.pc) (hv:IsToks w B v c.va c.vl c.vc):IsBare w B ⟨c.k,p,c.key,c.i,c.j,c.n,c.s,v⟩ c
theorem IsBare.keep {w w':World} {B:Nat} {x:Ba} {c:BA} (h:IsBare w B x c) (hb:Below B w w'):IsBare w' B x c:=by
 cases h with
 |mk c p v hbd hp hv=>exact .mk c p v hbd (hp.keep hb) (hv.keep hb)
noncomputable def compP (b:Ba):Cm:=⟨b.k,b.path,b.key,b.i,b.j,b.n,(rawP 20 (b.v.take 60)).1,b.s⟩
theorem zfs {tmps:Array Value} {W:World} {b:Nat} {d:CC} (ht:tmps[2]? =some (.pointer (some ⟨b,0,none⟩))) (h:BC W b (ccells d)):
 (results Tryz.f26 tmps).run Tryz.prog W= .ok (.agg #[.int .u8 d.k, .slice d.pa d.pl d.pc, .string d.key, .int .i64 d.i, .int .i64 d.j, .int .i64 d.n, .int .u8 d.v.k, .int .i64 d.v.n, .string d.v.s, .slice d.v.la d.v.ll d.v.lc, .slice d.v.oa d.v.ol d.v.oc, .string d.s]) W:=by
 obtain ⟨r0,r1,r2,r3,r4,r5,r6,r7,r8,r9,r10,r11⟩:=row12 h.at_
 simp [results,Tryz.results26,go_sem,ht,r0,r1,r2,r3,r4,r5,r6,r7,r8,r9,r10,r11]
theorem zlv {w:World} {B0:Nat} {Q:Nat->Prop} {p:List St} {a:Option Addr} {n c:Nat} (h:IsSteps w B0 p a n c):IsSteps (only (fun k=>k<B0∨Q k) w) B0 p a n c:=
 h.sub fun _ _ _ hb hc=>Z3 (.inl hb) hc
def CompPost (w:World) (B0:Nat) (x:Cm) (e:Ending) (w':World):Prop:=
 (∃cc:CC,e= .returned (.agg #[.int .u8 cc.k, .slice cc.pa cc.pl cc.pc, .string cc.key, .int .i64 cc.i, .int .i64 cc.j, .int .i64 cc.n, .int .u8 cc.v.k, .int .i64 cc.v.n, .string cc.v.s, .slice cc.v.la cc.v.ll cc.v.lc, .slice cc.v.oa cc.v.ol cc.v.oc, .string cc.s])/\IsComp (only (fun k=>k<B0∨w.heap.size<=k) w') w'.heap.size x cc)/\Below w.heap.size w w'
set_option maxRecDepth 100000 in
theorem zfl (w:World) (B0:Nat) (hB0:B0<=w.heap.size) (c:BA) (x:Ba) (h:IsBare w B0 x c):
 uP 26 #[.agg #[.int .u8 c.k, .slice c.pa c.pl c.pc, .string c.key, .int .i64 c.i, .int .i64 c.j, .int .i64 c.n, .string c.s, .slice c.va c.vl c.vc]] w (CompPost w B0 (compP x)):=by
 delta uP
 cases h with
 |mk _ p v hbd hp hv=>
 obtain ⟨R,hR⟩:∃R,CompPost w B0 (compP ⟨c.k,p,c.key,c.i,c.j,c.n,c.s,v⟩)=R:=⟨_,rfl⟩
 rw [hR]
 have HR:=qh hR
 obtain ⟨wr,hwr⟩:∃wr,((w.alloc (.cells #[.int .u8 c.k, .slice c.pa c.pl c.pc, .string c.key, .int .i64 c.i, .int .i64 c.j, .int .i64 c.n, .string c.s, .slice c.va c.vl c.vc] 29)).alloc (.cells #[.int .u8 0, .slice none 0 0, .string { data:= #[] }, .int .i64 0, .int .i64 0, .int .i64 0, .int .u8 0, .int .i64 0, .string { data:= #[] }, .slice none 0 0, .slice none 0 0, .string { data:= #[] }] 39))=wr:=⟨_,rfl⟩
 obtain ⟨d1,d2,hb,hz⟩:=Qw w #[.int .u8 c.k, .slice c.pa c.pl c.pc, .string c.key, .int .i64 c.i, .int .i64 c.j, .int .i64 c.n, .string c.s, .slice c.va c.vl c.vc] #[.int .u8 0, .slice none 0 0, .string { data:= #[] }, .int .i64 0, .int .i64 0, .int .i64 0, .int .u8 0, .int .i64 0, .string { data:= #[] }, .slice none 0 0, .slice none 0 0, .string { data:= #[] }] 29 39
 rw [hwr] at d1 d2 hb hz
 have HRW:Hid (∀W,Below wr.heap.size wr.drew W->uP 63 #[.slice c.va c.vl c.vc] W fun e w'=>(∃cv:VC,e= .returned (.agg #[.int .u8 cv.k, .int .i64 cv.n, .string cv.s, .slice cv.la cv.ll cv.lc, .slice cv.oa cv.ol cv.oc])/\IsVal (only (fun b=>W.heap.size<=b) w') w'.heap.size (rawP 20 (v.take 60)).1 cv)/\uB W w'):=fun W hW=>zf7 W v _ _ _ ((hv.more hB0).later_ ((hb.trans ((Zf wr).mono (by omega))).trans (hW.mono (by omega))))
 have HFB:Hid (∀W,Below (w.heap.size+1) wr.drew W->W.cell? ⟨w.heap.size,0,none⟩=some (.int .u8 c.k)/\W.cell? ⟨w.heap.size,1,none⟩=some (.slice c.pa c.pl c.pc)/\W.cell? ⟨w.heap.size,2,none⟩=some (.string c.key)/\W.cell? ⟨w.heap.size,3,none⟩=some (.int .i64 c.i)/\W.cell? ⟨w.heap.size,4,none⟩=some (.int .i64 c.j)/\W.cell? ⟨w.heap.size,5,none⟩=some (.int .i64 c.n)/\W.cell? ⟨w.heap.size,6,none⟩=some (.string c.s)/\W.cell? ⟨w.heap.size,7,none⟩=some (.slice c.va c.vl c.vc)):=by
  intro W hW
  have hk:∀o u,wr.cell? ⟨w.heap.size,o,none⟩=some u->W.cell? ⟨w.heap.size,o,none⟩=some u:=fun o u h=>Za hW (Za (Zf wr) h (by omega)) (by omega)
  exact ⟨hk _ _ (d1.at_ 0 _ rfl),hk _ _ (d1.at_ 1 _ rfl),hk _ _ (d1.at_ 2 _ rfl),hk _ _ (d1.at_ 3 _ rfl),hk _ _ (d1.at_ 4 _ rfl),hk _ _ (d1.at_ 5 _ rfl),hk _ _ (d1.at_ 6 _ rfl),hk _ _ (d1.at_ 7 _ rfl)⟩
 have HD2:=qh (show BC wr.drew (w.heap.size+1) (ccells czero) from d2.keep (Zf wr) (by omega))
 have HB:=qh hb
 have zs:w.heap.size<wr.heap.size:=by omega
 have zt:w.heap.size+1<wr.heap.size:=by omega
 have HZ:=qh hz
 have HP:=qh hp
 have HBD:=qh hbd
 have HWR:=qh hwr
 clear hwr d1 d2 hb hz hv hp hbd hR
 go_enter Tryz.func26,Tryz.ntmps26
 generalize hQ0:bodyPost _ _ _=Q0
 have HQ:=qh hQ0
 clear hQ0
 go_upto_region 1 with fail
 rw [HWR.out]
 clear HWR
 go_wp2_with fail
 refine wp_region_noPanic ?_
 go_region_held_law (fun W=>W.cell? ⟨w.heap.size,0,none⟩=some (.int .u8 c.k)/\W.cell? ⟨w.heap.size,1,none⟩=some (.slice c.pa c.pl c.pc)/\W.cell? ⟨w.heap.size,2,none⟩=some (.string c.key)/\W.cell? ⟨w.heap.size,3,none⟩=some (.int .i64 c.i)/\W.cell? ⟨w.heap.size,4,none⟩=some (.int .i64 c.j)/\W.cell? ⟨w.heap.size,5,none⟩=some (.int .i64 c.n)/\W.cell? ⟨w.heap.size,6,none⟩=some (.string c.s)/\W.cell? ⟨w.heap.size,7,none⟩=some (.slice c.va c.vl c.vc))
  ((refine HFB.out _ ?_;(first|(with_reducible exact bl4)|(with_reducible exact Below.refl _ _)|(with_reducible exact Below.setC bl4 (Nat.le_refl _) ⟨c.k,c.pa,c.pl,c.pc,c.key,c.i,c.j,c.n,cv,c.s⟩))))
  (first|(go_at_call 63;(with_reducible refine (HRW.out _ (Below.refl _ _)).mono ?_);rintro e w4 ⟨⟨cv,rfl,hI⟩,hb4⟩;have HI:=qh hI;clear hI;have HB4:=qh hb4;have bl4:Below (w.heap.size+1) wr.drew w4:=hb4.mono (Nat.le_of_lt zt);clear hb4;have XB:=HD2.out.keep HB4.out zt;obtain ⟨xc0,xc1,xc2,xc3,xc4,xc5,xc6,xc7,xc8,xc9,xc10,xc11⟩:=row12 XB.at_;have xg0:=XB.fr 0;have xg1:=XB.fr 1;have xg2:=XB.fr 2;have xg3:=XB.fr 3;have xg4:=XB.fr 4;have xg5:=XB.fr 5;have xg6:=XB.fr 6;have xg7:=XB.fr 7;have xg8:=XB.fr 8;have xg9:=XB.fr 9;have xg10:=XB.fr 10;have xg11:=XB.fr 11;have xl:=XB.lt))
 all_goals
  refine NoPanic.normal ?_
  have HXB:=qh XB
  clear XB
  go_wp2_with fail
  rw [<-HQ.out, <-HR.out]
  have st:=Yk w4 (w.heap.size+1) ⟨c.k,c.pa,c.pl,c.pc,c.key,c.i,c.j,c.n,cv,c.s⟩
  have hbW:uB w w4:=(HB.out.trans ((Zf wr).mono (Nat.le_of_lt zs))).trans (HB4.out.mono (Nat.le_of_lt zs))
  have hq:=HBD.out
  have hzz:wr.heap.size<=w4.heap.size:=HB4.out.size
  refine ⟨rfl,_,zfs rfl (Zp (c0:=czero) HXB.out ⟨c.k,c.pa,c.pl,c.pc,c.key,c.i,c.j,c.n,cv,c.s⟩),⟨⟨c.k,c.pa,c.pl,c.pc,c.key,c.i,c.j,c.n,cv,c.s⟩,rfl, ?_⟩,Below.setC hbW (by omega) ⟨c.k,c.pa,c.pl,c.pc,c.key,c.i,c.j,c.n,cv,c.s⟩⟩
  refine .mk ⟨c.k,c.pa,c.pl,c.pc,c.key,c.i,c.j,c.n,cv,c.s⟩ p _ ⟨hq.k0,hq.k1,hq.i0,hq.i1,hq.j0,hq.j1,hq.n0,hq.n1,hq.key1,hq.s1⟩ ?_ ?_
  .have h1:IsSteps (setC w4 (w.heap.size+1) ⟨c.k,c.pa,c.pl,c.pc,c.key,c.i,c.j,c.n,cv,c.s⟩) B0 p c.pa c.pl c.pc:=HP.out.keep ((Below.setC hbW (by omega) ⟨c.k,c.pa,c.pl,c.pc,c.key,c.i,c.j,c.n,cv,c.s⟩).mono hB0)
   have hz2:=st.size
   exact (zlv h1).more (Nat.le_trans (by omega) hz2)
  .exact Z2 HI.out rfl st.size fun k hk hl=>⟨.inr (by have:=hk;simp at this;omega),st.block k hl (by have:=hk;simp at this;omega)⟩
end Go.Proofs.YtnjgbiachcfigaaGreatDoor
