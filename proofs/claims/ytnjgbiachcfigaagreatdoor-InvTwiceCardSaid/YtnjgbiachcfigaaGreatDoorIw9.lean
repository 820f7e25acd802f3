/-
  Contracts of the functions that the law reaches: one. Build.
-/
import Derived.Test.YtnjgbiachcfigaaGreatDoorIw8
namespace Go.Proofs.YtnjgbiachcfigaaGreatDoor
open Go.RowKit
set_option maxHeartbeats 4000000
theorem zhn (d:Nat):∀(dd:Int),0<=dd->dd+d=6->∀(w:World) (l:List Tk) (a:Option Addr) (n c:Nat),IsToks w w.heap.size l a n c->
 uP 36 #[.slice a n c, .int .i64 dd] w (RawPost w (oneP d l)):=by
 delta uP
 induction d with
 | zero=>
   intro dd _ hd w l a n c h
   cases l with
   |nil=>obtain rfl:n=0:=h.len;exact zcq w dd a c
   | cons t r=>
     obtain rfl:dd=6:=by omega
     by_cases h4:t.k % 6=4
     .exact zni w t r a n c h h4
     .by_cases h5:t.k % 6=5
      .exact zju w t r a n c h h5
      .exact zey w 6 t r a n c h h4 h5
 | succ d ih=>
   intro dd hd0 hd w l a n c h
   cases l with
   |nil=>obtain rfl:n=0:=h.len;exact zcq w dd a c
   | cons t r=>
     have IH:=fun W l a n c h=>ih (dd+1) (by omega) (by omega) W l a n c h
     by_cases h4:t.k % 6=4
     .exact zpk w dd hd0 (by omega) d t r a n c h IH h4
     .by_cases h5:t.k % 6=5
      .exact zkd w dd hd0 (by omega) d t r a n c h IH h5
      .rw [oneP,if_neg h4,if_neg h5];exact zey w dd t r a n c h h4 h5
theorem zn0 {tmps:Array Value} {W:World} {b:Nat} {c:VC} (ht:tmps[2]? =some (.pointer (some ⟨b,0,none⟩))) (h:BC W b (vcells c)):
 (results Tryz.f13 tmps).run Tryz.prog W= .ok (.agg #[.int .u8 c.k, .int .i64 c.n, .string c.s, .slice c.la c.ll c.lc, .slice c.oa c.ol c.oc]) W:=by
 obtain ⟨r0,r1,r2,r3,r4⟩:=(⟨h.at_ 0 _ rfl,h.at_ 1 _ rfl,h.at_ 2 _ rfl,h.at_ 3 _ rfl,h.at_ 4 _ rfl⟩:W.cell? ⟨b,0,none⟩=some (.int .u8 c.k)/\W.cell? ⟨b,1,none⟩=some (.int .i64 c.n)/\W.cell? ⟨b,2,none⟩=some (.string c.s)/\W.cell? ⟨b,3,none⟩=some (.slice c.la c.ll c.lc)/\W.cell? ⟨b,4,none⟩=some (.slice c.oa c.ol c.oc))
 simp [results,Tryz.results13,go_sem,ht,r0,r1,r2,r3,r4]
set_option maxRecDepth 100000 in
theorem Yf (w:World) (l:List Tk) (a:Option Addr) (n c:Nat) (h:IsToks w w.heap.size l a n c):
 uP 13 #[.slice a n c] w fun e w'=>(∃cv:VC,e= .returned (.agg #[.int .u8 cv.k, .int .i64 cv.n, .string cv.s, .slice cv.la cv.ll cv.lc, .slice cv.oa cv.ol cv.oc])/\IsVal (only (fun b=>w.heap.size<=b) w') w'.heap.size (oneP 6 (l.take 60)).1 cv)/\uB w w':=by
 delta uB uP
 have hlen:=h.len
 have hcap:=h.cap
 have hmax:=h.max
 have HD:=qh (BC.start w (uU 0 0 { data:= #[] } none 0 0 none 0 0) 36)
 have hal:uB w (w.alloc (.cells (uU 0 0 { data:= #[] } none 0 0 none 0 0) 36)):=(Below.refl _ _).alloc (Nat.le_refl _) _
 have HAL:=qh hal
 obtain ⟨N,hN⟩:∃N,min n 60=N:=⟨_,rfl⟩
 have hN2:N<=n:=by omega
 have htk:l.take N=l.take 60:=by
  by_cases hq:n<=60
  .rw [List.take_of_length_le (by omega),List.take_of_length_le (by omega)]
  .rw [show N=60 by omega]
 have HI:=qh ((h.later_ hal).take N hN2)
 rw [htk] at HI
 obtain ⟨p,hp⟩:∃p,oneP 6 (l.take 60)=p:=⟨_,rfl⟩
 have HP:=qh hp
 rw [hp]
 have hcs:(n<=60/\N=n)∨(60<n/\N=60):=by omega
 have hm:min (n:Int) 60=(N:Int):=by omega
 clear hN hN2
 rcases hcs with ⟨hq,rfl⟩|⟨hq,rfl⟩
 all_goals
  clear h hlen hal htk hp
  go_enter Tryz.func13,Tryz.ntmps13
  generalize hQ0:bodyPost _ _ _=Q0
  have HQ:=qh hQ0
  clear hQ0
  go_wp2_with fail
  refine (zhn 6 0 (by omega) (by omega) _ _ _ _ _ HI.out).mono ?_
  rw [HP.out]
  rintro e w3 ⟨⟨cv,rfl,hI3⟩,hb3⟩
  have D:=HD.out.keep hb3 (by simp)
  obtain ⟨r0,r1,r2,r3,r4⟩:=row5 D.at_
  have g0:=D.fr 0;have g1:=D.fr 1;have g2:=D.fr 2;have g3:=D.fr 3;have g4:=D.fr 4
  have zs3:w.heap.size<w3.heap.size:=D.lt
  have HD3:=qh D
  have HI3:=qh hI3
  have HB3:=qh (HAL.out.trans (hb3.mono (by simp)))
  clear D hI3 hb3
  go_wp2_with fail
  rw [<-HQ.out]
  have s1:RStep w3 (((((w3.setCell ⟨w.heap.size,0,none⟩ (.int .u8 cv.k)).setCell ⟨w.heap.size,1,none⟩ (.int .i64 cv.n)).setCell ⟨w.heap.size,2,none⟩ (.string cv.s)).setCell ⟨w.heap.size,3,none⟩ (.slice cv.la cv.ll cv.lc)).setCell ⟨w.heap.size,4,none⟩ (.slice cv.oa cv.ol cv.oc)) w.heap.size:=(((RStep.self.trans RStep.self).trans RStep.self).trans RStep.self).trans RStep.self
  have hbc:BC (((((w3.setCell ⟨w.heap.size,0,none⟩ (.int .u8 cv.k)).setCell ⟨w.heap.size,1,none⟩ (.int .i64 cv.n)).setCell ⟨w.heap.size,2,none⟩ (.string cv.s)).setCell ⟨w.heap.size,3,none⟩ (.slice cv.la cv.ll cv.lc)).setCell ⟨w.heap.size,4,none⟩ (.slice cv.oa cv.ol cv.oc)) w.heap.size (vcells cv):=((((HD3.out.set (i:=0) (x:= .int .u8 cv.k) (by simp)).set (i:=1) (x:= .int .i64 cv.n) (by simp)).set (i:=2) (x:= .string cv.s) (by simp)).set (i:=3) (x:= .slice cv.la cv.ll cv.lc) (by simp)).set (i:=4) (x:= .slice cv.oa cv.ol cv.oc) (by simp)
  have hv:=fun ob=>(Zm (Zm HI3.out s1 (by simp)) (RStep.of_below w.heap.size ((Below.refl _ _).alloc (Nat.le_refl _) ob)) (by simp)).sub (Zd (S':=fun b=>w.heap.size<=b) fun k hk _=>⟨by simp at hk;omega,rfl⟩)
  have hB:=HB3.out.trans (s1.below (by omega))
  exact ⟨rfl,_,zn0 rfl (hbc.keep ((Below.refl _ _).alloc (Nat.le_refl _) _) hbc.lt),⟨cv,rfl,hv _⟩,hB.alloc hB.size _⟩
end Go.Proofs.YtnjgbiachcfigaaGreatDoor
