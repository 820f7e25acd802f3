/-
  Contracts of the functions that the law reaches: Two components for one value, each.
-/
import Derived.Test.YtbgheehjfnoiiaaGreatDoorOn38
namespace Go.Proofs.YtbgheehjfnoiiaaGreatDoor
open Go.RowKit
set_option maxHeartbeats 16000000
theorem zit {k:Int} (h:isL k=true):isF k=false:=by have:=Q2.1 h;unfold isF;simp;omega
def gapR (m k i j:Int) (left:Bool):Int:=if k=4 then upI i m (!left) else if k=5 then lessI m i else if k=7 then upI j (lessI m i) (!left) else m
set_option maxRecDepth 100000 in
theorem zkw (w:World) (c:CC):uP 160 #[.agg (uC c)] w fun e w'=>e= .returned (.bool (isL c.k))/\uB w w':=by
 delta uC uB uP
 have bx:=T1.start w c 54
 obtain ⟨w1,hw1⟩:∃W,w.alloc (.cells (uC c) 54)=W:=⟨_,rfl⟩
 rw [hw1] at bx
 have c0:=bx.a.at_ 0 _ rfl
 go_enter Tryz.func160,Tryz.ntmps160
 go_upto_region 1 with fail
 clear hw1
 go_wp2_with fail
 all_goals (go_ret;refine ⟨zcw ?_,bx.below⟩;clear c0 bx;simp only [isL];grind)
set_option maxRecDepth 100000 in
theorem zk6 (w:World) (m:Int) (c:CC) (left:Bool) (hm: -4611686018427387904<=m/\m<=4611686018427387904):uP 161 #[.int .i64 m, .agg (uC c), .bool left] w fun e w'=>e= .returned (.int .i64 (gapR m c.k c.i c.j left))/\uB w w':=by
 delta uC uB uP
 have bx:=T1.start w c 54
 obtain ⟨w1,hw1⟩:∃W,w.alloc (.cells (uC c) 54)=W:=⟨_,rfl⟩
 rw [hw1] at bx
 have HM:=qh hm
 have c0:=bx.a.at_ 0 _ rfl;have c3:=bx.a.at_ 3 _ rfl;have c4:=bx.a.at_ 4 _ rfl
 clear hm
 go_enter Tryz.func161,Tryz.ntmps161
 go_upto_region 1 with fail
 clear hw1
 go_wp2_with (first|(go_at_call 158;(with_reducible refine (Qt _ _ _ _).mono ?_);rintro e w2 ⟨rfl,hb2⟩;replace bx:=bx.next hb2;clear hb2;have c0:=bx.a.at_ 0 _ rfl;have c3:=bx.a.at_ 3 _ rfl;have c4:=bx.a.at_ 4 _ rfl)|(go_at_call 159;(with_reducible refine (Xc _ _ _).mono ?_);rintro e w2 ⟨rfl,hb2⟩;replace bx:=bx.next hb2;clear hb2;have c0:=bx.a.at_ 0 _ rfl;have c3:=bx.a.at_ 3 _ rfl;have c4:=bx.a.at_ 4 _ rfl))
 all_goals (go_ret;refine ⟨Xe ?_,bx.below⟩;have hm:=HM.out;clear c0 c3 c4 bx HM;simp only [Yx hm,upW (bnd1 hm),upW (K3 hm),gapR];grind)
theorem mid {k:Int} (h: -2305843009213693952<=k/\k<=2305843009213693952): -4611686018427387904<=k/\k<=4611686018427387904:=by omega
set_option maxRecDepth 100000 in
theorem zhh (w:World) (a b:CC) (left:Bool) (ha: -2305843009213693952<=a.i/\a.i<=2305843009213693952) (haj: -2305843009213693952<=a.j/\a.j<=2305843009213693952) (hb: -2305843009213693952<=b.i/\b.i<=2305843009213693952) (hbj: -2305843009213693952<=b.j/\b.j<=2305843009213693952):uP 177 #[.agg (uC a), .agg (uC b), .bool left] w fun e w'=>e= .returned (.int .i64 (tgtI a.i a.j b.k b.i b.j left))/\uB w w':=by
 delta uC uB uP
 have bx:=T2.start w a b 54 54
 obtain ⟨w1,hw1⟩:∃W,(w.alloc (.cells (uC a) 54)).alloc (.cells (uC b) 54)=W:=⟨_,rfl⟩
 rw [hw1] at bx
 have HA:=qh ha;have HB:=qh hb;have HAJ:=qh haj;have HBJ:=qh hbj
 have c3:=bx.a.at_ 3 _ rfl;have c4:=bx.a.at_ 4 _ rfl;have d0:=bx.b.at_ 0 _ rfl;have d3:=bx.b.at_ 3 _ rfl;have d4:=bx.b.at_ 4 _ rfl
 clear ha hb haj hbj
 go_enter Tryz.func177,Tryz.ntmps177
 go_upto_region 1 with fail
 clear hw1
 have q1:=Za (bx.a.at_ 3 _ rfl);have q2:=Za (bx.a.at_ 4 _ rfl);have q3:=Za (bx.b.at_ 3 _ rfl);have q4:=Za (bx.b.at_ 4 _ rfl)
 refine Zh (by kernel_rfl) (by kernel_rfl) ?_
 repeat (go_big_quiet_step ((go_at_call 159;exact Zg (Xc _ _ _))))
 refine wpQuiet_nil ?_
 intro _ hw'
 obtain ⟨pq,hw''⟩:=hw'
 subst hw''
 replace bx:=bx.next (Zd _ pq);clear q1 q2 q3 q4
 have c3:=bx.a.at_ 3 _ rfl;have c4:=bx.a.at_ 4 _ rfl;have d0:=bx.b.at_ 0 _ rfl;have d3:=bx.b.at_ 3 _ rfl;have d4:=bx.b.at_ 4 _ rfl
 go_wp2_with fail
 .have q1:=Za (bx.a.at_ 3 _ rfl);have q2:=Za (bx.a.at_ 4 _ rfl);have q3:=Za (bx.b.at_ 3 _ rfl);have q4:=Za (bx.b.at_ 4 _ rfl)
  refine Zh (by kernel_rfl) (by kernel_rfl) ?_
  repeat (go_big_quiet_step ((go_at_call 158;exact Zg (Qt _ _ _ _))))
  refine wpQuiet_nil ?_
  intro _ hw'
  obtain ⟨pq,hw''⟩:=hw'
  subst hw''
  replace bx:=bx.next (Zd _ pq);clear q1 q2 q3 q4
  have c3:=bx.a.at_ 3 _ rfl;have c4:=bx.a.at_ 4 _ rfl;have d0:=bx.b.at_ 0 _ rfl;have d3:=bx.b.at_ 3 _ rfl;have d4:=bx.b.at_ 4 _ rfl
  go_wp2_with fail
  go_ret;refine ⟨Xe ?_,bx.below⟩;have ha:=HA.out;have hb:=HB.out;have haj:=HAJ.out;have hbj:=HBJ.out;clear c3 c4 d0 d3 d4 bx HA HB HAJ HBJ;simp only [Yx (mid hb),upW (bnd1 (mid haj)),tgtI];grind
 .have q1:=Za (bx.a.at_ 3 _ rfl);have q2:=Za (bx.a.at_ 4 _ rfl);have q3:=Za (bx.b.at_ 3 _ rfl);have q4:=Za (bx.b.at_ 4 _ rfl)
  refine Zh (by kernel_rfl) (by kernel_rfl) ?_
  repeat (go_big_quiet_step ((go_at_call 159;exact Zg (Xc _ _ _))))
  refine wpQuiet_nil ?_
  intro _ hw'
  obtain ⟨pq,hw''⟩:=hw'
  subst hw''
  replace bx:=bx.next (Zd _ pq);clear q1 q2 q3 q4
  have c3:=bx.a.at_ 3 _ rfl;have c4:=bx.a.at_ 4 _ rfl;have d0:=bx.b.at_ 0 _ rfl;have d3:=bx.b.at_ 3 _ rfl;have d4:=bx.b.at_ 4 _ rfl
  go_wp2_with fail
  go_ret;refine ⟨Xe ?_,bx.below⟩;have ha:=HA.out;have hb:=HB.out;have haj:=HAJ.out;have hbj:=HBJ.out;clear c3 c4 d0 d3 d4 bx HA HB HAJ HBJ;simp only [Yx (mid hb),Yx (mid haj),tgtI];grind
 .have q1:=Za (bx.a.at_ 3 _ rfl);have q2:=Za (bx.a.at_ 4 _ rfl);have q3:=Za (bx.b.at_ 3 _ rfl);have q4:=Za (bx.b.at_ 4 _ rfl)
  refine Zh (by kernel_rfl) (by kernel_rfl) ?_
  repeat (go_big_quiet_step ((go_at_call 159;exact Zg (Xc _ _ _))))
  refine wpQuiet_nil ?_
  intro _ hw'
  obtain ⟨pq,hw''⟩:=hw'
  subst hw''
  replace bx:=bx.next (Zd _ pq);clear q1 q2 q3 q4
  have c3:=bx.a.at_ 3 _ rfl;have c4:=bx.a.at_ 4 _ rfl;have d0:=bx.b.at_ 0 _ rfl;have d3:=bx.b.at_ 3 _ rfl;have d4:=bx.b.at_ 4 _ rfl
  go_wp2_with fail
  have q1:=Za (bx.a.at_ 3 _ rfl);have q2:=Za (bx.a.at_ 4 _ rfl);have q3:=Za (bx.b.at_ 3 _ rfl);have q4:=Za (bx.b.at_ 4 _ rfl)
  refine Zh (by kernel_rfl) (by kernel_rfl) ?_
  repeat (go_big_quiet_step ((go_at_call 159;exact Zg (Xc _ _ _))))
  refine wpQuiet_nil ?_
  intro _ hw'
  obtain ⟨pq,hw''⟩:=hw'
  subst hw''
  replace bx:=bx.next (Zd _ pq);clear q1 q2 q3 q4
  have c3:=bx.a.at_ 3 _ rfl;have c4:=bx.a.at_ 4 _ rfl;have d0:=bx.b.at_ 0 _ rfl;have d3:=bx.b.at_ 3 _ rfl;have d4:=bx.b.at_ 4 _ rfl
  go_wp2_with fail
  have q1:=Za (bx.a.at_ 3 _ rfl);have q2:=Za (bx.a.at_ 4 _ rfl);have q3:=Za (bx.b.at_ 3 _ rfl);have q4:=Za (bx.b.at_ 4 _ rfl)
  refine Zh (by kernel_rfl) (by kernel_rfl) ?_
  repeat (go_big_quiet_step ((go_at_call 159;exact Zg (Xc _ _ _))))
  refine wpQuiet_nil ?_
  intro _ hw'
  obtain ⟨pq,hw''⟩:=hw'
  subst hw''
  replace bx:=bx.next (Zd _ pq);clear q1 q2 q3 q4
  have c3:=bx.a.at_ 3 _ rfl;have c4:=bx.a.at_ 4 _ rfl;have d0:=bx.b.at_ 0 _ rfl;have d3:=bx.b.at_ 3 _ rfl;have d4:=bx.b.at_ 4 _ rfl
  go_wp2_with (go_at_call 158;(with_reducible refine (Qt _ _ _ _).mono ?_);rintro e w2 ⟨rfl,hb2⟩;replace bx:=bx.next hb2;clear hb2;have c3:=bx.a.at_ 3 _ rfl;have c4:=bx.a.at_ 4 _ rfl;have d0:=bx.b.at_ 0 _ rfl;have d3:=bx.b.at_ 3 _ rfl;have d4:=bx.b.at_ 4 _ rfl)
  go_ret;refine ⟨Xe ?_,bx.below⟩;have ha:=HA.out;have hb:=HB.out;have haj:=HAJ.out;have hbj:=HBJ.out;clear c3 c4 d0 d3 d4 bx HA HB HAJ HBJ;simp only [Yx (mid ha),Yx (mid hb),Yx (mid haj),Yx (mid hbj),upW (K3 (mid haj)),tgtI];grind
 .go_ret;refine ⟨Xe ?_,bx.below⟩;have ha:=HA.out;have hb:=HB.out;have haj:=HAJ.out;have hbj:=HBJ.out;clear c3 c4 d0 d3 d4 bx HA HB HAJ HBJ;simp only [tgtI];grind
def CC.to (a:CC) (i j n:Int):CC:=⟨a.k,a.pa,a.pl,a.pc,a.key,i,j,n,a.v,a.s⟩
def ShP (w:World) (cs:List CC) (e:Ending) (w':World):Prop:=
 (∃p c,e= .returned (.slice p cs.length c)/\w'.ownsRow w.heap.size 54 12 (.slice p cs.length c) cs.length (cs.flatMap ccells))/\Below w.heap.size w w'
theorem ShP.nil {w W:World} (hb:uB w W):ShP w [] (.returned (.slice none 0 0)) W:=⟨⟨_,_,rfl,(Row.nil 54 12 W w.heap.size (PC [] [])).own⟩,hb⟩
theorem ShP.one {w W:World} {a:CC} {x y n:Int} (hb:uB w W):ShP w [a.to x y n] (.returned (.slice (some ⟨W.heap.size,0,none⟩) 1 1)) (W.alloc (.cells #[.int .u8 a.k, .slice a.pa a.pl a.pc, .string a.key, .int .i64 x, .int .i64 y, .int .i64 n, .int .u8 a.v.k, .int .i64 a.v.n, .string a.v.s, .slice a.v.la a.v.ll a.v.lc, .slice a.v.oa a.v.ol a.v.oc, .string a.s] 54)):=
 ⟨⟨_,1,rfl,rfl, .inr ⟨W.heap.size,1, #[.int .u8 a.k, .slice a.pa a.pl a.pc, .string a.key, .int .i64 x, .int .i64 y, .int .i64 n, .int .u8 a.v.k, .int .i64 a.v.n, .string a.v.s, .slice a.v.la a.v.ll a.v.lc, .slice a.v.oa a.v.ol a.v.oc, .string a.s],rfl,hb.size,heap_alloc_new W _,Nat.le_refl _,by decide,rfl,rfl⟩⟩,hb.alloc hb.size _⟩
theorem T2.low {w W:World} {a b:CC} (h:T2 w W a b) (o:Nat) (v:Value):uB w (W.setCell ⟨w.heap.size,o,none⟩ v):=h.below.trans ((RStep.self:RStep W (W.setCell ⟨w.heap.size,o,none⟩ v) w.heap.size).lowC (Nat.le_refl _) h.below.size)
theorem T2.low2 {w W:World} {a b:CC} (h:T2 w W a b) (o o':Nat) (v v':Value):uB w ((W.setCell ⟨w.heap.size,o,none⟩ v).setCell ⟨w.heap.size,o',none⟩ v'):=(h.low o v).trans ((RStep.self:RStep (W.setCell ⟨w.heap.size,o,none⟩ v) ((W.setCell ⟨w.heap.size,o,none⟩ v).setCell ⟨w.heap.size,o',none⟩ v') w.heap.size).lowC (Nat.le_refl _) (h.low o v).size)
def seqCC (a b:CC) (left:Bool):List CC:=match seqO a.k a.i a.j b.k b.i b.j left with
 |none=> []
 |some p=> [a.to p.1 p.2 a.n]
theorem zdd {w W:World} {a b:CC} {left:Bool} (hb:uB w W) (h:seqO a.k a.i a.j b.k b.i b.j left=none):ShP w (seqCC a b left) (.returned (.slice none 0 0)) W:=by
 unfold seqCC;rw [h];exact ShP.nil hb
theorem Qn {w W:World} {a b:CC} {left:Bool} {k x y n:Int} {z:Nat} (hb:uB w W) (hz:W.heap.size=z) (hn:n=a.n/\k=a.k) (h:seqO a.k a.i a.j b.k b.i b.j left=some (x,y)):ShP w (seqCC a b left) (.returned (.slice (some ⟨z,0,none⟩) 1 1)) (W.alloc (.cells #[.int .u8 k, .slice a.pa a.pl a.pc, .string a.key, .int .i64 x, .int .i64 y, .int .i64 n, .int .u8 a.v.k, .int .i64 a.v.n, .string a.v.s, .slice a.v.la a.v.ll a.v.lc, .slice a.v.oa a.v.ol a.v.oc, .string a.s] 54)):=by
 obtain ⟨rfl,rfl⟩:=hn;subst hz;unfold seqCC;rw [h];exact ShP.one hb
structure SqB (a b:CC):Prop where
 ai: -2305843009213693952<=a.i/\a.i<=2305843009213693952
 aj: -2305843009213693952<=a.j/\a.j<=2305843009213693952
 bi: -2305843009213693952<=b.i/\b.i<=2305843009213693952
 bj: -2305843009213693952<=b.j/\b.j<=2305843009213693952
set_option maxRecDepth 100000 in
theorem zh0 (w:World) (a b:CC) (left:Bool) (hs:SqB a b) (ka:a.k=7) (kb:isL b.k=true):uP 162 #[.agg (uC a), .agg (uC b), .bool left] w (ShP w (seqCC a b left)):=by
 delta uC uP
 obtain ⟨ak,ap,al,ac,ae,ai,aj,an,av,az⟩:=a
 obtain ⟨bk,bp,bl,bc,be,bi,bj,bn,bv,bz⟩:=b
 obtain rfl:ak=7:=ka
 have hb:=Q2.1 kb
 have hi:ai=bi∨(ai==bi)=false:=by by_cases e:ai=bi;exact .inl e;exact .inr (by simpa using e)
 rcases zmn hb.1 hb.2 with rfl|rfl|rfl|rfl<;>rcases hi with rfl|hi
 all_goals
  generalize ha:CC.mk 7 ap al ac ae ai aj an av az=a at hs
  generalize hb:CC.mk _ bp bl bc be _ bj bn bv bz=b at hs kb
  have bx:=T2.start w a b 54 54
  obtain ⟨w1,hw1⟩:∃W,(w.alloc (.cells (uC a) 54)).alloc (.cells (uC b) 54)=W:=⟨_,rfl⟩
  rw [hw1] at bx
  have HTG:Hid (∀W,uP 177 #[.agg (uC a), .agg (uC b), .bool left] W fun e w'=>e= .returned (.int .i64 (tgtI a.i a.j b.k b.i b.j left))/\uB W w'):=qh fun W=>zhh W a b left hs.ai hs.aj hs.bi hs.bj
  have HAT:Hid (∀W,uP 122 #[.int .i64 a.i, .agg (uC b)] W fun e w'=>e= .returned (.tuple #[.int .i64 (atR a.i b.k b.i b.j).1, .bool (atR a.i b.k b.i b.j).2])/\uB W w'):=qh fun W=>zcy W a.i b (mid hs.ai) kb
  obtain ⟨c0,c1,c2,c3,c4,c5,c6,c7,c8,c9,c10,c11⟩:=row12 bx.a.at_;obtain ⟨d0,d1,d2,d3,d4,d5,d6,d7,d8,d9,d10,d11⟩:=row12 bx.b.at_;have za:=bx.a.lt;have ga:=bx.a.fr
  subst ha hb
  dsimp only at c0 c1 c2 c3 c4 c5 c6 c7 c8 c9 c10 c11 d0 d1 d2 d3 d4 d5 d6 d7 d8 d9 d10 d11 HTG HAT
  clear hs kb
  go_enter Tryz.func162,Tryz.ntmps162
  go_upto_region 1 with fail
  clear hw1
  go_wp2_with (first|(go_at_call 177;(with_reducible refine (HTG.out _).mono ?_);rintro e w2 ⟨rfl,hb2⟩;replace bx:=bx.next hb2;clear hb2;obtain ⟨c0,c1,c2,c3,c4,c5,c6,c7,c8,c9,c10,c11⟩:=row12 bx.a.at_;obtain ⟨d0,d1,d2,d3,d4,d5,d6,d7,d8,d9,d10,d11⟩:=row12 bx.b.at_;have za:=bx.a.lt;have ga:=bx.a.fr)|(go_at_call 122;(with_reducible refine (HAT.out _).mono ?_);rintro e w2 ⟨rfl,hb2⟩;replace bx:=bx.next hb2;clear hb2;obtain ⟨c0,c1,c2,c3,c4,c5,c6,c7,c8,c9,c10,c11⟩:=row12 bx.a.at_;obtain ⟨d0,d1,d2,d3,d4,d5,d6,d7,d8,d9,d10,d11⟩:=row12 bx.b.at_;have za:=bx.a.lt;have ga:=bx.a.fr))
  all_goals (go_ret;clear c0 c1 c2 c3 c4 c5 c6 c7 c8 c9 c10 c11 d0 d1 d2 d3 d4 d5 d6 d7 d8 d9 d10 d11 za ga;first|(refine zdd bx.below ?_;clear bx HTG HAT;simp only [seqO];grind)|((first|refine Qn (bx.low2 _ _ _ _) (by simp) ⟨rfl,rfl⟩ ?_|refine Qn (bx.low _ _) (by simp) ⟨rfl,rfl⟩ ?_|refine Qn bx.below rfl ⟨rfl,rfl⟩ ?_);clear bx HTG HAT;simp only [seqO,atR,atI];grind))
theorem ShP.from_ {w W:World} {cs:List CC} {e:Ending} {w':World} (h:ShP W cs e w') (hb:uB w W):ShP w cs e w':=by
 obtain ⟨⟨p,c,he,h1,h2⟩,h3⟩:=h
 refine ⟨⟨p,c,he,h1,h2.imp id fun ⟨b,k,l,q1,q2,q3⟩=>⟨b,k,l,q1,Nat.le_trans hb.size q2,q3⟩⟩,hb.trans (h3.mono hb.size)⟩
set_option maxRecDepth 100000 in
theorem zge (w:World) (a b:CC) (left:Bool) (hs:SqB a b) (ka:isL a.k=true) (kb:isL b.k=true):uP 123 #[.agg (uC a), .agg (uC b), .bool left] w (ShP w (seqCC a b left)):=by
 delta uC uP
 have bx:=T2.start w a b 54 54
 obtain ⟨w1,hw1⟩:∃W,(w.alloc (.cells (uC a) 54)).alloc (.cells (uC b) 54)=W:=⟨_,rfl⟩
 rw [hw1] at bx
 have HKN:Hid (∀W (c:CC) K x,K=c.k->x=c.i->isL c.k=true->uP 160 #[.agg #[.int .u8 K, .slice c.pa c.pl c.pc, .string c.key, .int .i64 x, .int .i64 c.j, .int .i64 c.n, .int .u8 c.v.k, .int .i64 c.v.n, .string c.v.s, .slice c.v.la c.v.ll c.v.lc, .slice c.v.oa c.v.ol c.v.oc, .string c.s]] W fun e w'=>e= .returned (.bool true)/\uB W w'):=qh fun W c K x e1 e2 h=>by subst e1 e2;have:=zkw W c;rw [h] at this;exact this
 have HGP:Hid (∀W x K y,x=a.i->K=b.k->y=b.i->uP 161 #[.int .i64 x, .agg #[.int .u8 K, .slice b.pa b.pl b.pc, .string b.key, .int .i64 y, .int .i64 b.j, .int .i64 b.n, .int .u8 b.v.k, .int .i64 b.v.n, .string b.v.s, .slice b.v.la b.v.ll b.v.lc, .slice b.v.oa b.v.ol b.v.oc, .string b.s], .bool left] W fun e w'=>e= .returned (.int .i64 (gapR a.i b.k b.i b.j left))/\uB W w'):=qh fun W x K y e1 e2 e3=>by subst e1 e2 e3;exact zk6 W a.i b left (mid hs.ai)
 have HMV:Hid (∀W k x K y,k=a.k->x=a.i->K=b.k->y=b.i->a.k=7->uP 162 #[.agg #[.int .u8 k, .slice a.pa a.pl a.pc, .string a.key, .int .i64 x, .int .i64 a.j, .int .i64 a.n, .int .u8 a.v.k, .int .i64 a.v.n, .string a.v.s, .slice a.v.la a.v.ll a.v.lc, .slice a.v.oa a.v.ol a.v.oc, .string a.s], .agg #[.int .u8 K, .slice b.pa b.pl b.pc, .string b.key, .int .i64 y, .int .i64 b.j, .int .i64 b.n, .int .u8 b.v.k, .int .i64 b.v.n, .string b.v.s, .slice b.v.la b.v.ll b.v.lc, .slice b.v.oa b.v.ol b.v.oc, .string b.s], .bool left] W (ShP W (seqCC a b left))):=qh fun W k x K y e1 e2 e3 e4 h=>by subst e1 e2 e3 e4;exact zh0 W a b left hs h kb
 have HAT:Hid (∀W x K y,x=a.i->K=b.k->y=b.i->uP 122 #[.int .i64 x, .agg #[.int .u8 K, .slice b.pa b.pl b.pc, .string b.key, .int .i64 y, .int .i64 b.j, .int .i64 b.n, .int .u8 b.v.k, .int .i64 b.v.n, .string b.v.s, .slice b.v.la b.v.ll b.v.lc, .slice b.v.oa b.v.ol b.v.oc, .string b.s]] W fun e w'=>e= .returned (.tuple #[.int .i64 (atR a.i b.k b.i b.j).1, .bool (atR a.i b.k b.i b.j).2])/\uB W w'):=qh fun W x K y e1 e2 e3=>by subst e1 e2 e3;exact zcy W a.i b (mid hs.ai) kb
 have HKA:=qh ka;have HKB:=qh kb
 obtain ⟨c0,c1,c2,c3,c4,c5,c6,c7,c8,c9,c10,c11⟩:=row12 bx.a.at_;obtain ⟨d0,d1,d2,d3,d4,d5,d6,d7,d8,d9,d10,d11⟩:=row12 bx.b.at_;have za:=bx.a.lt;have ga:=bx.a.fr
 clear hs ka kb
 go_enter Tryz.func123,Tryz.ntmps123
 go_upto_region 1 with fail
 clear hw1
 go_wp2_with (first|(go_at_call 160;(with_reducible refine (HKN.out _ a _ _ (by first|rfl|omega) (by first|rfl|omega) HKA.out).mono ?_);rintro e w2 ⟨rfl,hb2⟩;replace bx:=bx.next hb2;clear hb2;obtain ⟨c0,c1,c2,c3,c4,c5,c6,c7,c8,c9,c10,c11⟩:=row12 bx.a.at_;obtain ⟨d0,d1,d2,d3,d4,d5,d6,d7,d8,d9,d10,d11⟩:=row12 bx.b.at_;have za:=bx.a.lt;have ga:=bx.a.fr)|(go_at_call 160;(with_reducible refine (HKN.out _ b _ _ (by first|rfl|omega) (by first|rfl|omega) HKB.out).mono ?_);rintro e w2 ⟨rfl,hb2⟩;replace bx:=bx.next hb2;clear hb2;obtain ⟨c0,c1,c2,c3,c4,c5,c6,c7,c8,c9,c10,c11⟩:=row12 bx.a.at_;obtain ⟨d0,d1,d2,d3,d4,d5,d6,d7,d8,d9,d10,d11⟩:=row12 bx.b.at_;have za:=bx.a.lt;have ga:=bx.a.fr)|(go_at_call 161;(with_reducible refine (HGP.out _ _ _ _ (by first|rfl|omega) (by first|rfl|omega) (by first|rfl|omega)).mono ?_);rintro e w2 ⟨rfl,hb2⟩;replace bx:=bx.next hb2;clear hb2;obtain ⟨c0,c1,c2,c3,c4,c5,c6,c7,c8,c9,c10,c11⟩:=row12 bx.a.at_;obtain ⟨d0,d1,d2,d3,d4,d5,d6,d7,d8,d9,d10,d11⟩:=row12 bx.b.at_;have za:=bx.a.lt;have ga:=bx.a.fr)|(go_at_call 122;(with_reducible refine (HAT.out _ _ _ _ (by first|rfl|omega) (by first|rfl|omega) (by first|rfl|omega)).mono ?_);rintro e w2 ⟨rfl,hb2⟩;replace bx:=bx.next hb2;clear hb2;obtain ⟨c0,c1,c2,c3,c4,c5,c6,c7,c8,c9,c10,c11⟩:=row12 bx.a.at_;obtain ⟨d0,d1,d2,d3,d4,d5,d6,d7,d8,d9,d10,d11⟩:=row12 bx.b.at_;have za:=bx.a.lt;have ga:=bx.a.fr)|(go_at_call 162;(with_reducible refine (HMV.out _ _ _ _ _ (by first|rfl|omega) (by first|rfl|omega) (by first|rfl|omega) (by first|rfl|omega) (beq_iff_eq.1 (by assumption))).mono ?_);rintro e w2 hsp;have HSP:=qh (hsp.from_ bx.below);obtain ⟨⟨p,c,rfl, -⟩, -⟩:=hsp))
 all_goals (go_ret;clear c0 c1 c2 c3 c4 c5 c6 c7 c8 c9 c10 c11 d0 d1 d2 d3 d4 d5 d6 d7 d8 d9 d10 d11 za ga;have ka:=HKA.out;have kb:=HKB.out;first|exact HSP.out|(refine zdd bx.below ?_;clear bx HKN HGP HMV HAT;simp only [seqO,isL,atR,atI] at*;grind)|((first|refine Qn (bx.low _ _) (by simp) ⟨rfl,by first|rfl|omega⟩ ?_|refine Qn bx.below rfl ⟨rfl,by first|rfl|omega⟩ ?_);clear bx HKN HGP HMV HAT;simp only [seqO,isL,atR,atI,gapR] at*;grind))
def txtCC (a b:CC) (left:Bool):List CC:=(txtO a.k a.i a.n b.k b.i b.n (textN b.s) left).map fun p=>a.to p.1 a.j p.2
structure TxB (a b:CC):Prop where
 ai: -2305843009213693952<=a.i/\a.i<=2305843009213693952
 an: -2305843009213693952<=a.n/\a.n<=2305843009213693952
 bi: -2305843009213693952<=b.i/\b.i<=2305843009213693952
 bn: -2305843009213693952<=b.n/\b.n<=2305843009213693952
 bs:b.s.size<=1000000000000
theorem zje (s:ByteArray):textN s<=s.size:=by have:=(Xl s).2;unfold textN;omega
set_option maxRecDepth 100000 in
theorem zjq (w:World) (a b:CC) (left:Bool):uP 125 #[.agg (uC a), .agg (uC b), .bool left] w fun e w'=>e= .returned (.bool (a.k==2 && (left||b.k==3)))/\uB w w':=by
 delta uC uB uP
 have bx:=T2.start w a b 54 54
 obtain ⟨w1,hw1⟩:∃W,(w.alloc (.cells (uC a) 54)).alloc (.cells (uC b) 54)=W:=⟨_,rfl⟩
 rw [hw1] at bx
 have c0:=bx.a.at_ 0 _ rfl;have d0:=bx.b.at_ 0 _ rfl
 obtain ⟨R,hR⟩:∃R,(a.k==2 && (left||b.k==3))=R:=⟨_,rfl⟩
 rw [hR]
 have HR:=qh hR
 clear hR
 go_enter Tryz.func125,Tryz.ntmps125
 go_upto_region 1 with fail
 clear hw1
 go_wp2_with fail
 all_goals (go_ret;refine ⟨zcw ?_,bx.below⟩;rw [<-HR.out];clear c0 d0 bx HR;first|rfl|grind)
def besCC (a b:CC) (left:Bool):List CC:=
 if isF a.k=true/\isF b.k=true/\a.key=b.key then (if a.k=2/\(b.k=3∨left=true) then [a] else [])
 else if isL a.k=true/\isL b.k=true then seqCC a b left
 else if isT a.k=true/\isT b.k=true then txtCC a b left
 else [a]
theorem Jf {k:Int} :famP k=5↔isF k=true:=by simp only [famP,isF,isL,isT];grind
theorem Jn {k:Int} :famP k=4↔isL k=true:=by simp only [famP,isF,isL,isT];grind
theorem Jt {k:Int} :famP k=3↔isT k=true:=by simp only [famP,isF,isL,isT];grind
theorem ze7 {a b:CC} {left:Bool} (h1:famP a.k=5) (h2:famP b.k=5) (h3:a.key=b.key) (h4:(a.k==2 && (left||b.k==3))=false):besCC a b left= [] :=by
 unfold besCC
 rw [if_pos ⟨Jf.1 h1,Jf.1 h2,h3⟩,if_neg]
 grind
theorem zgw {a b:CC} {left:Bool} (h1:¬(famP a.k=4/\famP b.k=4)) (h2:¬(famP a.k=3/\famP b.k=3)) (h3:¬(famP a.k=5/\famP b.k=5/\a.key=b.key/\(a.k==2 && (left||b.k==3))=false)):besCC a b left= [a] :=by
 unfold besCC
 rw [Jn,Jn] at h1;rw [Jt,Jt] at h2;rw [Jf,Jf] at h3
 by_cases h:isF a.k=true/\isF b.k=true/\a.key=b.key
 .rw [if_pos h,if_pos]
  have h4:(a.k==2 && (left||b.k==3))=true:=by
   cases e:(a.k==2 && (left||b.k==3)) with
   |true=>rfl
   |false=>exact absurd ⟨h.1,h.2.1,h.2.2,e⟩ h3
  grind
 .rw [if_neg h,if_neg h1,if_neg h2]
theorem znn {w W:World} {cs:List CC} (hb:uB w W) (h:cs= []):ShP w cs (.returned (.slice none 0 0)) W:=by subst h;exact ShP.nil hb
theorem zi8 {w W:World} {a:CC} {cs:List CC} {k:Int} {z:Nat} {key:ByteArray} (hb:uB w W) (hz:W.heap.size=z) (hk:k=a.k) (hkey:key=a.key) (h:cs= [a]):ShP w cs (.returned (.slice (some ⟨z,0,none⟩) 1 1)) (W.alloc (.cells #[.int .u8 k, .slice a.pa a.pl a.pc, .string key, .int .i64 a.i, .int .i64 a.j, .int .i64 a.n, .int .u8 a.v.k, .int .i64 a.v.n, .string a.v.s, .slice a.v.la a.v.ll a.v.lc, .slice a.v.oa a.v.ol a.v.oc, .string a.s] 54)):=by
 subst hk hz hkey h;exact ShP.one (a:=a) (x:=a.i) (y:=a.j) (n:=a.n) hb
set_option maxRecDepth 100000 in
theorem zkx (w:World) (a b:CC) (left:Bool) (hs:SqB a b) (hT:isT a.k=true->isT b.k=true->∀W,uP 124 #[.agg (uC a), .agg (uC b), .bool left] W (ShP W (txtCC a b left))):uP 78 #[.agg (uC a), .agg (uC b), .bool left] w (ShP w (besCC a b left)):=by
 delta uC uP
 have bx:=T2.start w a b 54 54
 obtain ⟨w1,hw1⟩:∃W,(w.alloc (.cells (uC a) 54)).alloc (.cells (uC b) 54)=W:=⟨_,rfl⟩
 rw [hw1] at bx
 have HFA:Hid (∀W,uP 121 #[.agg (uC a)] W fun e w'=>e= .returned (.int .u8 (famP a.k))/\uB W w'):=qh fun W=>zcu W a
 have HFB:Hid (∀W,uP 121 #[.agg (uC b)] W fun e w'=>e= .returned (.int .u8 (famP b.k))/\uB W w'):=qh fun W=>zcu W b
 have HFL:Hid (∀W,uP 125 #[.agg (uC a), .agg (uC b), .bool left] W fun e w'=>e= .returned (.bool (a.k==2 && (left||b.k==3)))/\uB W w'):=qh fun W=>zjq W a b left
 obtain ⟨fa,hfa⟩:∃f,famP a.k=f:=⟨_,rfl⟩
 obtain ⟨fb,hfb⟩:∃f,famP b.k=f:=⟨_,rfl⟩
 obtain ⟨q,hq⟩:∃q,(a.key.toList==b.key.toList)=q:=⟨_,rfl⟩
 obtain ⟨r,hr⟩:∃r,(a.k==2 && (left||b.k==3))=r:=⟨_,rfl⟩
 have hqk:q=true↔a.key=b.key:=by rw [<-hq];exact ⟨fun h=>K8 (by simpa using h),fun h=>by rw [h];simp⟩
 rw [hfa] at HFA;rw [hfb] at HFB;rw [hr] at HFL
 have HSQ:Hid ((fa==4)=true->(fa !=fb)=false->∀W,uP 123 #[.agg (uC a), .agg (uC b), .bool left] W (ShP W (besCC a b left))):=qh fun e1 e2 W=>by
  have f1:fa=4:=by simpa using e1
  have f2 : fb = 4 := by rw [<-f1];have:fa=fb:=by simpa using e2
                         exact this.symm
  have h1:=Jn.1 (hfa.trans f1);have h2:=Jn.1 (hfb.trans f2)
  have e:besCC a b left=seqCC a b left:=by
   unfold besCC
   rw [if_neg (by rw [zit h1];simp),if_pos ⟨h1,h2⟩]
  rw [e];exact zge W a b left hs h1 h2
 have HTX:Hid ((fa==3)=true->(fa !=fb)=false->∀W,uP 124 #[.agg (uC a), .agg (uC b), .bool left] W (ShP W (besCC a b left))):=qh fun e1 e2 W=>by
  have f1:fa=3:=by simpa using e1
  have f2 : fb = 3 := by rw [<-f1];have:fa=fb:=by simpa using e2
                         exact this.symm
  have h1:=Jt.1 (hfa.trans f1);have h2:=Jt.1 (hfb.trans f2)
  have e:besCC a b left=txtCC a b left:=by
   have:=zdv.1 h1
   unfold besCC
   rw [if_neg (by rw [zmh];omega),if_neg (by rw [Q2];omega),if_pos ⟨h1,h2⟩]
  rw [e];exact hT h1 h2 W
 have HNO:Hid (fa=5->fb=5->q=true->r=false->besCC a b left= []):=qh fun e1 e2 e3 e4=>ze7 (hfa.trans e1) (hfb.trans e2) (hqk.1 e3) (hr.trans e4)
 have HON:Hid (¬(fa=4/\fb=4)->¬(fa=3/\fb=3)->¬(fa=5/\fb=5/\q=true/\r=false)->besCC a b left= [a]):=qh fun e1 e2 e3=>zgw (by rw [hfa,hfb];exact e1) (by rw [hfa,hfb];exact e2) (by rw [hfa,hfb,hr, <-hqk];exact e3)
 obtain ⟨c0,c1,c2,c3,c4,c5,c6,c7,c8,c9,c10,c11⟩:=row12 bx.a.at_;obtain ⟨d0,d1,d2,d3,d4,d5,d6,d7,d8,d9,d10,d11⟩:=row12 bx.b.at_
 clear hs hT hfa hfb hqk hr
 go_enter Tryz.func78,Tryz.ntmps78
 go_upto_region 1 with fail
 clear hw1
 go_wp2_with (first|(go_at_call 121;(with_reducible refine (HFA.out _).mono ?_);rintro e w2 ⟨rfl,hb2⟩;replace bx:=bx.next hb2;clear hb2;obtain ⟨c0,c1,c2,c3,c4,c5,c6,c7,c8,c9,c10,c11⟩:=row12 bx.a.at_;obtain ⟨d0,d1,d2,d3,d4,d5,d6,d7,d8,d9,d10,d11⟩:=row12 bx.b.at_)|(go_at_call 121;(with_reducible refine (HFB.out _).mono ?_);rintro e w2 ⟨rfl,hb2⟩;replace bx:=bx.next hb2;clear hb2;obtain ⟨c0,c1,c2,c3,c4,c5,c6,c7,c8,c9,c10,c11⟩:=row12 bx.a.at_;obtain ⟨d0,d1,d2,d3,d4,d5,d6,d7,d8,d9,d10,d11⟩:=row12 bx.b.at_)|(go_at_call 125;(with_reducible refine (HFL.out _).mono ?_);rintro e w2 ⟨rfl,hb2⟩;replace bx:=bx.next hb2;clear hb2;obtain ⟨c0,c1,c2,c3,c4,c5,c6,c7,c8,c9,c10,c11⟩:=row12 bx.a.at_;obtain ⟨d0,d1,d2,d3,d4,d5,d6,d7,d8,d9,d10,d11⟩:=row12 bx.b.at_)|(go_at_call 123;(with_reducible refine (HSQ.out (by assumption) (by assumption) _).mono ?_);rintro e w2 hsp;have HSP:=qh (hsp.from_ bx.below);obtain ⟨⟨p,c,rfl, -⟩, -⟩:=hsp)|(go_at_call 124;(with_reducible refine (HTX.out (by assumption) (by assumption) _).mono ?_);rintro e w2 hsp;have HSP:=qh (hsp.from_ bx.below);obtain ⟨⟨p,c,rfl, -⟩, -⟩:=hsp))
 all_goals (go_ret;clear c0 c1 c2 c3 c4 c5 c6 c7 c8 c9 c10 c11 d0 d1 d2 d3 d4 d5 d6 d7 d8 d9 d10 d11;first|exact HSP.out|(refine zi8 bx.below rfl rfl rfl (HON.out ?_ ?_ ?_)<;>(clear bx HFA HFB HFL HSQ HTX HNO HON;grind))|(refine znn bx.below (HNO.out ?_ ?_ ?_ ?_)<;>(clear bx HFA HFB HFL HSQ HTX HNO HON;grind)))
theorem IsSteps.takeN {w:World} {B:Nat} {p:List St} {a:Option Addr} {n c m:Nat} (h:IsSteps w B p a n c) (hm:m<=n):IsSteps w B (p.take m) a m c:=by
 obtain ⟨h1,h2,h3,h4,b,o,h5,h6⟩:=h
 refine ⟨by rw [List.length_take];omega,by omega,h3,by omega,b,o,fun h=>h5 (by omega),fun i hi=> ?_⟩
 have hi2:i<p.length:=by rw [List.length_take] at hi;omega
 rw [List.getElem_take]
 exact h6 i hi2
set_option maxRecDepth 100000 in
theorem zhk (w:World) (p q:List St) (a a':Option Addr) (n m c c':Nat) (h:IsSteps w w.heap.size p a n c) (h':IsSteps w w.heap.size q a' m c'):
 uP 75 #[.slice a n c, .slice a' m c'] w fun e w'=>e= .returned (.bool (eqB (p.take q.length) q))/\uB w w':=by
 delta uB uP
 have k1:=h.max;have k2:=h.few;have k3:=h'.max;have k4:=h'.few;have k5:=h.cap
 have hl:=h.len;have hl':=h'.len
 by_cases hmn:m<=n
 .have HE:=qh (Kk (p.take m) q w a a' m m c c' (h.takeN hmn) h')
  rw [<-hl']
  have hi:(m:Int)<=(n:Int):=by omega
  have hi0:¬((m:Int)<0):=by omega
  have hmc:m<=c:=by omega
  have hmc2:(m:Int)<=(c:Int):=by omega
  clear h h' hl hl'
  go_enter Tryz.func75,Tryz.ntmps75
  go_wp2_with (go_at_call 48;(with_reducible refine HE.out.mono ?_);rintro e w1 ⟨rfl,hb1⟩)
  go_ret
  exact ⟨rfl,hb1⟩
 .have e:eqB (p.take q.length) q=false:=Zx fun e=>by
   have:=congrArg List.length e
   rw [List.length_take] at this;omega
  rw [e]
  have hi:¬((m:Int)<=(n:Int)):=by omega
  clear h h' hl hl' e
  go_enter Tryz.func75,Tryz.ntmps75
  go_wp2_with fail
  go_ret
  exact ⟨rfl,Below.refl _ _⟩
def CC.t3 (d:CC) (t:Int×Int×Int):CC:=d.to t.1 t.2.1 t.2.2
def Cm.t3 (x:Cm) (t:Int×Int×Int):Cm:=x.to t.1 t.2.1 t.2.2
def In64 (t:Int×Int×Int):Prop:=(-9223372036854775808<=t.1/\t.1<=9223372036854775807)/\(-9223372036854775808<=t.2.1/\t.2.1<=9223372036854775807)/\(-9223372036854775808<=t.2.2/\t.2.2<=9223372036854775807)
theorem zgl {ka ia ja kb ib jb:Int} {left:Bool} {p:Int×Int} (hi: -2305843009213693952<=ia/\ia<=2305843009213693952) (hj: -2305843009213693952<=ja/\ja<=2305843009213693952) (hbj: -2305843009213693952<=jb/\jb<=2305843009213693952) (h:seqO ka ia ja kb ib jb left=some p):(-9223372036854775808<=p.1/\p.1<=9223372036854775807)/\(-9223372036854775808<=p.2/\p.2<=9223372036854775807):=by
 have u:∀o k s,k<=upI o k s/\upI o k s<=k+1:=fun o k s=>by unfold upI;split<;>omega
 have l:∀k o,k - 1<=lessI k o/\lessI k o<=k:=fun k o=>by unfold lessI;split<;>omega
 have q1:=u ib ia (!left);have q2:=l ia ib;have q3:=u jb (lessI ia ib) (!left);have q4:=u ib ia true;have q5:=u jb (lessI ia ib) true
 have q6:=l ib ia;have q7:=u (lessI ib ia) ja (!left);have q8:=l ja (lessI ib ia);have q9:=l jb (lessI ia ib);have q10:=u (lessI jb (lessI ia ib)) (lessI ja (lessI ib ia)) (!left)
 unfold seqO tgtI at h
 repeat' split at h
 all_goals first
  |(cases h;done)
  |(injection h with h;subst h;dsimp only;(repeat' split);all_goals omega)
theorem zj0 {ka ia na kb ib nb mb:Int} {left:Bool} (hi: -2305843009213693952<=ia/\ia<=2305843009213693952) (hn: -2305843009213693952<=na/\na<=2305843009213693952) (hbi: -2305843009213693952<=ib/\ib<=2305843009213693952) (hbn: -2305843009213693952<=nb/\nb<=2305843009213693952) (hm:0<=mb/\mb<=1000000000000):∀p ∈ txtO ka ia na kb ib nb mb left,(-9223372036854775808<=p.1/\p.1<=9223372036854775807)/\(-9223372036854775808<=p.2/\p.2<=9223372036854775807):=by
 intro p hp
 unfold txtO at hp
 repeat' split at hp
 all_goals
  simp only [List.mem_cons,List.mem_nil_iff,or_false] at hp
 all_goals first
     |(exact hp.elim)
     |(rcases hp with rfl|rfl<;>(dsimp only;omega))
     |(subst hp;dsimp only;(repeat' split);all_goals omega)
theorem zb8 {W:World} {base:Nat} {e:TypeId} {g n cap:Nat} {cs:List CC} (h:W.ownsRow base e 12 (.slice (some ⟨g,0,none⟩) n cap) n (cs.flatMap ccells)) {i:Nat} (hi:i<cs.length) {c:CC} (hc:cs.getD i czero=c):∀j v,(ccells c)[j]? =some v->W.cell? ⟨g,i*12+j,none⟩=some v:=by
 rw [List.getD_eq_getElem?_getD,List.getElem?_eq_getElem hi,Option.getD_some] at hc
 rw [<-hc];exact Qv h hi
def SomeInt (w:World) (e:Ending) (w':World):Prop:=(∃z:Int,e= .returned (.int .i64 z))/\Below w.heap.size w w'
theorem IsAct.toks {w:World} {B:Nat} {x:Ac} {c:AC} (h:IsAct w B x c):IsToks w B x.v c.va c.vl c.vc:=by
 cases h with
 |mk c p v hb hp hv=>exact hv
set_option maxRecDepth 100000 in
theorem zae (w:World) (l:List Ac) (a:Option Addr) (n c:Nat) (hl:IsActs w w.heap.size l a n c):
 uP 29 #[.slice a n c] w (SomeInt w):=by
 delta uP
 have hmax:=hl.max;have hcap:=hl.cap
 have HL:=qh hl
 clear hl
 obtain ⟨R,hR⟩:∃R,SomeInt w=R:=⟨_,rfl⟩
 rw [hR]
 have HR:=qh hR
 clear hR
 go_enter Tryz.func29,Tryz.ntmps29
 go_wp2_with fail
 go_loopg [3,4,5] n (fun gh z i _ wr=>∃(x:Int) (j:Nat),j<=n/\gh=n - j/\z= .int .i64 x/\i= .int .i64 j/\uB w wr)
 case atStart=>exact ⟨0,0,Nat.zero_le _,rfl,rfl,rfl,Below.refl _ _⟩
 case round=>
  obtain ⟨x,j,hj,rfl,rfl,rfl,hbl⟩:=hrel
  obtain ⟨w1,hw1⟩:∃w1,w1=wr:=⟨_,rfl⟩
  subst hw1
  have HBL:=qh hbl
  clear hbl
  by_cases hlt:j<n
  .obtain ⟨b,q,f,hpl,rfl,hbB,hat,hia⟩:=HL.out.get hlt
   have hat1:=hat.keep HBL.out hbB
   have s0:=hat1.c0;have s5:=hat1.c5;have s6:=hat1.c6
   have hv:=hia.toks
   have HV:=qh hv
   have hvm:=hv.max;have hvc:=hv.cap
   have HAT:=qh hat
   have hbw:b<w1.heap.size:=World.block_lt_of_cell? w1 _ s0
   clear hat hat1 hia hv
   go_wp2_with fail
   go_quiet (fail)
   go_wp2_with fail
   go_loopg [3,5] f.vl (fun gh z k wr=>∃(x:Int) (t:Nat),t<=f.vl/\gh=f.vl - t/\z= .int .i64 x/\k= .int .i64 t/\uB w wr)
   case atStart=>exact ⟨_,0,Nat.zero_le _,rfl,rfl,rfl,HBL.out.trans ((Xa _ _).mono HBL.out.size)⟩
   case round=>
    obtain ⟨y,t,ht,rfl,rfl,rfl,hbl⟩:=hrel
    have hat1:=HAT.out.keep hbl hbB
    clear s0 s5 s6 hbw
    have s6:=hat1.c6
    have hbw:b<wr.heap.size:=World.block_lt_of_cell? wr _ s6
    have HBL2:=qh hbl
    clear hat1 hbl
    by_cases htl:t<f.vl
    .obtain ⟨b2,q2,hp2,hva,hb2,htk,_⟩:=HV.out.get htl
     have htk1:=htk.keep HBL2.out hb2
     have t2:=htk1.c2
     rw [hva] at s6
     have hb2w:b2<wr.heap.size:=World.block_lt_of_cell? wr _ t2
     clear htk htk1 hva
     go_wp2_with fail
     go_roundg (f.vl - (t+1))
     case measure=>omega
     case rel=>exact ⟨_,t+1,by omega,rfl,rfl,by go_num,HBL2.out⟩
    .go_wp2_with fail
     go_roundg (n - (j+1))
     case measure=>omega
     case rel=>exact ⟨_,j+1,by omega,rfl,rfl,by go_num,HBL2.out⟩
  .go_wp2_with fail
   rw [<-HR.out]
   exact ⟨⟨_,rfl⟩,HBL.out⟩
def SomeBool (w:World) (e:Ending) (w':World):Prop:=(∃h:Bool,e= .returned (.bool h))/\Below w.heap.size w w'
set_option maxRecDepth 100000 in
theorem zf8 (w:World) (l:List Tk) (a:Option Addr) (n c:Nat) (hl:IsToks w w.heap.size l a n c) (x:List Ac) (ya:Option Addr) (yn yc:Nat) (ha:IsActs w w.heap.size x ya yn yc) (z:List Ac) (za:Option Addr) (zn zc:Nat) (hz:IsActs w w.heap.size z za zn zc):
 uP 18 #[.slice a n c, .slice ya yn yc, .slice za zn zc] w (SomeBool w):=by
 delta uP
 have hmax:=hl.max;have hcap:=hl.cap
 have HL:=qh hl
 have HH:Hid (∀W,uB w W->uP 29 #[.slice ya yn yc] W (SomeInt W)):=qh fun W hW=>zae W x ya yn yc (ha.later_ hW)
 have HH2:Hid (∀W,uB w W->uP 29 #[.slice za zn zc] W (SomeInt W)):=qh fun W hW=>zae W z za zn zc (hz.later_ hW)
 clear hl ha hz
 obtain ⟨R,hR⟩:∃R,SomeBool w=R:=⟨_,rfl⟩
 rw [hR]
 have HR:=qh hR
 clear hR
 go_enter Tryz.func18,Tryz.ntmps18
 go_wp2_with fail
 go_loopg [7,8] n (fun gh z i wr=>∃(x:Int) (j:Nat),j<=n/\gh=n - j/\z= .int .i64 x/\i= .int .i64 j/\uB w wr)
 case atStart=>exact ⟨0,0,Nat.zero_le _,rfl,rfl,rfl,Below.refl _ _⟩
 case round=>
  obtain ⟨x,j,hj,rfl,rfl,rfl,hbl⟩:=hrel
  have HBL:=qh hbl
  by_cases hlt:j<n
  .obtain ⟨b,q,hpl,rfl,hbB,htk,_⟩:=HL.out.get hlt
   have htk1:=htk.keep hbl hbB
   have t2:=htk1.c2
   have hbw:b<wr.heap.size:=World.block_lt_of_cell? wr _ t2
   clear htk htk1 hbl
   go_wp2_with fail
   go_roundg (n - (j+1))
   case measure=>omega
   case rel=>exact ⟨_,j+1,by omega,rfl,rfl,by go_num,HBL.out⟩
  .clear hbl
   go_wp2_with (first|(go_at_call 29;(with_reducible refine (HH.out _ HBL.out).mono ?_);rintro e w2 ⟨⟨z1,rfl⟩,hb2⟩;replace HBL:=qh (HBL.out.trans (hb2.mono HBL.out.size));clear hb2)|(go_at_call 29;(with_reducible refine (HH2.out _ HBL.out).mono ?_);rintro e w2 ⟨⟨z1,rfl⟩,hb2⟩;replace HBL:=qh (HBL.out.trans (hb2.mono HBL.out.size));clear hb2))
   all_goals (rw [<-HR.out];exact ⟨⟨_,rfl⟩,HBL.out⟩)
set_option maxRecDepth 100000 in
theorem zm6 (w:World) (vk vn:Int) (vs:ByteArray) (la:Option Addr) (ll lc:Nat) (oa:Option Addr) (ol oc:Nat) (v:V) (hv:IsVal w w.heap.size v ⟨vk,vn,vs,la,ll,lc,oa,ol,oc⟩) (hw:v.weight<=20000) (l:List Ac) (a:Option Addr) (n c:Nat) (hl:IsActs w w.heap.size l a n c) (hT:Tabs w):
 uP 13 #[.agg (uU vk vn vs la ll lc oa ol oc), .slice a n c] w (AimPost w (aimP v (l.take 20))):=by
 delta uU uP
 obtain ⟨i0,hi0,hz0,hz1,hz2⟩:=info_parts Ko
 have hmax:=hl.max;have hcap:=hl.cap
 have HLN:=qh hl.len
 have HAC:=qh hl
 obtain ⟨R,hR⟩:∃R,AimPost w (aimP v (l.take 20))=R:=⟨_,rfl⟩
 rw [hR]
 have HR:=qh hR
 have HS:=qh (AH.start (t:=29) (l.take 20) hv hw)
 have HT:=qh hT
 clear hl hv hR hT
 go_enter Tryz.func13,Tryz.ntmps13
 go_wp2_with fail
 go_loopg [5,6,7,8,9,10] 20 (fun gh u i _ _ _ _ wr=>∃(j:Nat) (x:V) (cx:VC) (ua:Option Addr) (m uc:Nat) (xs:List Cm) (cs:List CC),j<=n/\j<=20/\gh=20 - j/\i= .int .i64 j/\u= .slice ua m uc/\m=xs.length/\AH w wr v (l.take 20) j x cx (.slice ua m uc) xs cs)
 case atStart=>exact ⟨0,v,_,none,0,0, [], [],Nat.zero_le _,Nat.zero_le _,rfl,rfl,rfl,rfl,HS.out⟩
 case round =>
  obtain ⟨j,x,cx,ua,m,uc,xs,cs,hj,hj8,rfl,rfl,rfl,hmx,L⟩:=hrel
  obtain ⟨v0,v1,v2,v3,v4⟩:=row5 L.box.at_
  have zs:=L.box.lt
  have hfx:=L.few
  have HL:=qh L
  have HMX:=qh hmx
  clear L hmx
  by_cases hcont:j<n/\j<20
  .obtain ⟨hlt,hlt8⟩:=hcont
   obtain ⟨b,q,f,hpl,rfl,hbB,hat,hia⟩:=HAC.out.get hlt
   have hat2:=hat.keep HL.out.below hbB
   obtain ⟨act,hact⟩:∃y,l[j] =y:=⟨_,rfl⟩
   rw [hact] at hia
   have hdr:(l.take 20).drop j=act::(l.take 20).drop (j+1):=by
    have h8:j<(l.take 20).length:=by rw [List.length_take];omega
    rw [List.drop_eq_getElem_cons h8,List.getElem_take,hact]
   have HDR:=qh hdr
   have hbw:b<wr.heap.size:=World.block_lt_of_cell? wr _ hat2.c0
   have hzb:=HL.out.below.size
   obtain ⟨r,hr⟩:∃r,oneC x act=r:=⟨_,rfl⟩
   have HRR:=qh hr
   have hwx:x.weight<=20000+20100*20:=Nat.le_trans HL.out.wt (by omega)
   have hval:IsVal wr wr.heap.size x cx:=HL.out.val.sub (Zl _ _ _)
   have HC:Hid (∀W,Below wr.heap.size wr.drew W->uP 32 #[.agg (uV cx), .agg (uA f)] W (OnePost W r)):=fun W hW=>by
    have hbW:uB wr W:=(Zf wr).trans hW
    rw [<-hr]
    exact zem W cx.k cx.n cx.s cx.la cx.ll cx.lc cx.oa cx.ol cx.oc x (hval.later_ hbW) (by omega) f act ((hia.keep (HL.out.below.trans (hbW.mono hzb))).more (Nat.le_trans hzb hbW.size))
   have HFB:Hid (∀W,Below wr.heap.size wr.drew W->W.cell? ⟨w.heap.size,0,none⟩=some (.int .u8 cx.k)/\W.cell? ⟨w.heap.size,1,none⟩=some (.int .i64 cx.n)/\W.cell? ⟨w.heap.size,2,none⟩=some (.string cx.s)/\W.cell? ⟨w.heap.size,3,none⟩=some (.slice cx.la cx.ll cx.lc)/\W.cell? ⟨w.heap.size,4,none⟩=some (.slice cx.oa cx.ol cx.oc)/\W.cell? ⟨b,q+j*7,none⟩=some (.slice f.pa f.pl f.pc)/\W.cell? ⟨b,q+j*7+1,none⟩=some (.int .u8 f.k)/\W.cell? ⟨b,q+j*7+2,none⟩=some (.int .i64 f.i)/\W.cell? ⟨b,q+j*7+3,none⟩=some (.int .i64 f.j)/\W.cell? ⟨b,q+j*7+4,none⟩=some (.int .i64 f.n)/\W.cell? ⟨b,q+j*7+5,none⟩=some (.string f.s)/\W.cell? ⟨b,q+j*7+6,none⟩=some (.slice f.va f.vl f.vc)):=by
    intro W hW
    have hk:∀b o u,b<wr.heap.size->wr.cell? ⟨b,o,none⟩=some u->W.cell? ⟨b,o,none⟩=some u:=fun b o u hb h=>Zb hW (Zb (Zf wr) h hb) hb
    exact ⟨hk _ _ _ zs v0,hk _ _ _ zs v1,hk _ _ _ zs v2,hk _ _ _ zs v3,hk _ _ _ zs v4,hk _ _ _ hbw hat2.c0,hk _ _ _ hbw hat2.c1,hk _ _ _ hbw hat2.c2,hk _ _ _ hbw hat2.c3,hk _ _ _ hbw hat2.c4,hk _ _ _ hbw hat2.c5,hk _ _ _ hbw hat2.c6⟩
   have HVAL:=qh hval
   have HWX:=qh hwx
   clear hat hat2 hia hact hdr hr hwx hval
   go_upto_region 5 with fail
   go_cut [7,8] from 11 to 44 (fun c7 c8 wx=>∃(yb:Nat) (cc:CC) (nn:Int),c7= .pointer (some ⟨yb,0,none⟩)/\c8= .int .i64 nn/\BC wx yb (ccells cc)/\Below wr.heap.size wr.drew wx/\wr.heap.size<=yb/\Hid (OneRes wr.heap.size r nn wx cc))
   case first=>
    go_wp2_with fail
    refine wp_region_noPanic ?_
    go_region_held_law (fun W=>W.cell? ⟨w.heap.size,0,none⟩=some (.int .u8 cx.k)/\W.cell? ⟨w.heap.size,1,none⟩=some (.int .i64 cx.n)/\W.cell? ⟨w.heap.size,2,none⟩=some (.string cx.s)/\W.cell? ⟨w.heap.size,3,none⟩=some (.slice cx.la cx.ll cx.lc)/\W.cell? ⟨w.heap.size,4,none⟩=some (.slice cx.oa cx.ol cx.oc)/\W.cell? ⟨b,q+j*7,none⟩=some (.slice f.pa f.pl f.pc)/\W.cell? ⟨b,q+j*7+1,none⟩=some (.int .u8 f.k)/\W.cell? ⟨b,q+j*7+2,none⟩=some (.int .i64 f.i)/\W.cell? ⟨b,q+j*7+3,none⟩=some (.int .i64 f.j)/\W.cell? ⟨b,q+j*7+4,none⟩=some (.int .i64 f.n)/\W.cell? ⟨b,q+j*7+5,none⟩=some (.string f.s)/\W.cell? ⟨b,q+j*7+6,none⟩=some (.slice f.va f.vl f.vc))
     ((refine HFB.out _ ?_;(first|(with_reducible exact bl4)|(with_reducible exact Below.refl _ _)|(with_reducible exact Zp _ _)|(with_reducible exact Below.alloc bl4 bz4 _)|(with_reducible exact Below.setC bl4 (Nat.le_refl _) cc))))
     (first
      |(go_at_call 32;(with_reducible refine (HC.out _ (Below.refl _ _)).mono ?_);rintro e w4 h4;obtain ⟨cc,nn,rfl,ho,hb4⟩:=h4.any;clear h4;have HO:=qh ho;clear ho;have bl4:Below wr.heap.size wr.drew w4:=hb4;have bz4:wr.heap.size<=w4.heap.size:=hb4.size)
      |(go_at_call 32;(with_reducible refine (HC.out _ (Zp _ _)).mono ?_);rintro e w4 h4;obtain ⟨cc,nn,rfl,ho,hb4⟩:=h4.any;clear h4;have HO:=qh ho;clear ho;have bl4:Below wr.heap.size wr.drew w4:=(Zp _ _).trans (hb4.mono (by simp));have bz4:wr.heap.size<=w4.heap.size:=bl4.size;have XB:=Xn hb4;obtain ⟨xc0,xc1,xc2,xc3,xc4,xc5,xc6,xc7,xc8,xc9,xc10,xc11⟩:=row12 XB.at_;have xg0:=XB.fr 0;have xg1:=XB.fr 1;have xg2:=XB.fr 2;have xg3:=XB.fr 3;have xg4:=XB.fr 4;have xg5:=XB.fr 5;have xg6:=XB.fr 6;have xg7:=XB.fr 7;have xg8:=XB.fr 8;have xg9:=XB.fr 9;have xg10:=XB.fr 10;have xg11:=XB.fr 11;have xl:=XB.lt))
    all_goals
     (first
      |(with_reducible refine Zr (P:=fun W=>BC W w4.heap.size (ccells cc)/\Below wr.heap.size wr.drew W/\wr.heap.size<=w4.heap.size/\OneRes wr.heap.size r nn W cc) (zff bl4 bz4 cc _ HO.out (Nat.le_refl _)) ?_)
      |(with_reducible refine Zr (P:=fun W=>BC W wr.heap.size (ccells cc)/\Below wr.heap.size wr.drew W/\wr.heap.size<=wr.heap.size/\OneRes wr.heap.size r nn W cc) (zg5 bl4 cc XB HO.out (by simp)) ?_))
     rintro W ⟨hbc,hbW,hyb,ho⟩
     have HO2:=qh ho
     clear ho
     go_wp2_with fail
     go_meet
     exact ⟨_,cc,nn,rfl,rfl,hbc,hbW,hyb,HO2⟩
   case rest=>
    clear v0 v1 v2 v3 v4
    obtain ⟨yb,cc,nn,rfl,rfl,Y,hb5,hyb,HO⟩:=hcut
    have hbw5:uB wr wc:=(Zf wr).trans hb5
    have LB:=HL.out.box.keep hbw5 zs
    obtain ⟨v0,v1,v2,v3,v4⟩:=row5 LB.at_
    have vf0:=LB.fr 0;have vf1:=LB.fr 1;have vf2:=LB.fr 2;have vf3:=LB.fr 3;have vf4:=LB.fr 4
    have zs5:=LB.lt
    have HB5:=qh hbw5
    clear LB hb5 hbw5
    cases r with
    | none=>
      obtain rfl:nn=0:=HO.out
      have hrd:aimP x ((l.take 20).drop j)=aimP x ((l.take 20).drop (j+1)):=by rw [HDR.out,aimP,HRR.out]
      have HSK:=qh (HL.out.skip HB5.out hrd)
      clear hrd Y
      go_wp2_with fail
      go_roundg (20 - (j+1))
      case measure=>omega
      case rel=>exact ⟨j+1,x,cx,ua,m,uc,xs,cs,by omega,by omega,rfl,by go_num,rfl,HMX.out,HSK.out⟩
    | some cm=>
      obtain ⟨hn1,hcm⟩:=HO.out
      subst hn1
      have hsm:=zdc HRR.out
      have hzc:=HB5.out.size
      obtain ⟨z,hz⟩:∃z,doP x cm=z:=⟨_,rfl⟩
      have HDO:Hid (uP 33 #[.agg (uV cx), .agg (uC cc)] wc (DoPost wc z)):=by
       rw [<-hz]
       cases hcm with
       | mk _ p xv hbd hp hxv=>
         have h1:=hsm.sv;have h2:=hsm.ss
         dsimp only at h1 h2
         exact zfd wc cx.k cx.n cx.s cx.la cx.ll cx.lc cx.oa cx.ol cx.oc x (HVAL.out.later_ HB5.out) (by have:=HWX.out;omega) p xv cc hbd (hp.sub (Zl _ _ _)) (hxv.sub (Zl _ _ _)) (by omega) (fun y hy=>by have:=Z6 _ hy;have:=y.str_weight.1;have:=HWX.out;omega) (HT.out.below (HL.out.below.trans (HB5.out.mono hzb)))
      have HCM:=qh hcm
      have HZ:=qh hz
      obtain ⟨y0,y1,y2,y3,y4,y5,y6,y7,y8,y9,y10,y11⟩:=row12 Y.at_
      have zy:=Y.lt
      have HY:=qh Y
      obtain ⟨y,er⟩:=z
      clear hsm hcm hz Y
      go_wp2_with fail
      refine HDO.out.mono ?_
      rintro e w6 ⟨⟨d,rfl,hI6⟩,hb6⟩
      have hz56:=hb6.size
      have LB:=(HL.out.box.keep HB5.out zs).keep hb6 (by omega)
      have Y:=HY.out.keep hb6 zy
      clear v0 v1 v2 v3 v4 vf0 vf1 vf2 vf3 vf4 y0 y1 y2 y3 y4 y5 y6 y7 y8 y9 y10 y11
      obtain ⟨v0,v1,v2,v3,v4⟩:=row5 LB.at_
      have vf0:=LB.fr 0;have vf1:=LB.fr 1;have vf2:=LB.fr 2;have vf3:=LB.fr 3;have vf4:=LB.fr 4
      obtain ⟨y0,y1,y2,y3,y4,y5,y6,y7,y8,y9,y10,y11⟩:=row12 Y.at_
      have zs6:=LB.lt;have zy6:=Y.lt
      have HI6:=qh hI6
      have HB6:=qh hb6
      have HY6:=qh Y
      clear LB Y hI6 hb6
      dsimp only at HI6
      have hal:uB w6 (w6.alloc (.cells (uV d) 29)):=(Below.refl _ _).alloc (Nat.le_refl _) _
      have HAL:=qh hal
      clear hal
      by_cases he:er=0
      .subst he
       have hrd:aimP x ((l.take 20).drop j)=cm::aimP y ((l.take 20).drop (j+1)):=by
        rw [HDR.out,aimP,HRR.out];dsimp only;rw [HZ.out,if_pos rfl]
       have hwy:y.weight<=x.weight+20100:=by
        have:=zkb HRR.out (by rw [HZ.out]);rw [HZ.out] at this;exact this
       have hm:=AH.mid HL.out HB5.out HCM.out HB6.out HI6.out (.cells (uV d) 29)
       have HM:=qh hm
       have HRD:=qh hrd
       have HWY:=qh hwy
       have hal7:uB (setV w6 w.heap.size 0 d) ((setV w6 w.heap.size 0 d).alloc (.cells (uV d) 29)):=(Below.refl _ _).alloc (Nat.le_refl _) _
       have hst7:=Zi w6 w.heap.size 0 d
       have hY7:=(HY6.out.next hst7 (by omega)).keep hal7 (Nat.lt_of_lt_of_le zy6 hst7.size)
       have hz7:wr.heap.size<=((setV w6 w.heap.size 0 d).alloc (.cells (uV d) 29)).heap.size:=by have:=hst7.size;have:=hal7.size;omega
       have HY7:=qh hY7
       have HZ7:=qh hz7
       clear hm hrd hwy hY7 hz7 hal7 hst7
       obtain ⟨rfl⟩:m=xs.length:=HMX.out
       go_upto_region 10 with fail
       generalize hw7:World.alloc _ _=w7
       have hm7:AM w wr w7 x y cm d cc (.slice ua xs.length uc) xs cs:=by rw [<-hw7];exact HM.out
       have Y:BC w7 yb (ccells cc):=by rw [<-hw7];exact HY7.out
       have hz7:wr.heap.size<=w7.heap.size:=by rw [<-hw7];exact HZ7.out
       clear hw7 v0 v1 v2 v3 v4 vf0 vf1 vf2 vf3 vf4 y0 y1 y2 y3 y4 y5 y6 y7 y8 y9 y10 y11
       obtain ⟨y0,y1,y2,y3,y4,y5,y6,y7,y8,y9,y10,y11⟩:=row12 Y.at_
       have zy7:=Y.lt
       have hown:=hm7.row.own
       have HM7:=qh hm7
       clear hm7 Y
       go_wp2_with (at_builtin;refine wpList_append_lies _ rfl (.tmp 41) (.tmp 43) 31 (by rfl) (w.heap.size+1) 54 i0 _ 12 168 Tryz.underlying31 hi0 hz0 hz1 hz2 rfl (by omega) (.slice ua xs.length uc) xs.length (cs.flatMap ccells) (by rfl) (hown.alloc _) ⟨w7.heap.size,0,none⟩ 1 1 (ccells cc) (by rfl) (by rfl) (Km w7 cc _) (by simp [ccells,Value.oneCell']) (by omega) (by unfold maxLen;omega) (by omega) (by first|omega|(simp;omega)) (w7.heap.size+1) (by simp) ?_;intro g cap w9 hown9 hgrow9 hat9 hlt9)
       go_roundg (20 - (j+1))
       case measure=>omega
       case rel=>exact ⟨j+1,y,d,some ⟨g,0,none⟩,xs.length+1,cap,xs++ [cm],cs++ [cc],by omega,by omega,rfl,by go_num,rfl,by simp,HL.out.round HM7.out hz7 HRD.out HWY.out hown9 hgrow9 hat9⟩
      .have hne:(er==0)=false:=by simp [he]
       have hrd:aimP x ((l.take 20).drop j)=aimP x ((l.take 20).drop (j+1)):=by
        rw [HDR.out,aimP,HRR.out];dsimp only;rw [HZ.out,if_neg he]
       have HSK:=qh (HL.out.skip (HB5.out.trans ((HB6.out.trans (HAL.out.mono hz56)).mono hzc)) hrd)
       clear hrd
       go_wp2_with fail
       go_roundg (20 - (j+1))
       case measure=>omega
       case rel=>exact ⟨j+1,x,cx,ua,m,uc,xs,cs,by omega,by omega,rfl,by go_num,rfl,HMX.out,HSK.out⟩
  .have hdr:(l.take 20).drop j= [] :=by
    apply List.drop_eq_nil_of_le
    rw [List.length_take, <-HLN.out];omega
   have hrd:=HL.out.rd
   rw [hdr,aimP,List.append_nil] at hrd
   have HRD:=qh hrd
   have hex:¬j<n∨(j<n/\¬j<20):=by omega
   clear hrd hdr hcont
   rcases hex with hq|⟨hq,hq8⟩
   all_goals
    go_wp2_with fail
    rw [<-HR.out, <-HRD.out,HMX.out]
    exact ⟨⟨_,_,_,rfl,RowC.comps (by rw [<-HMX.out];exact HL.out.row) HL.out.cen (by omega) (by omega)⟩,HL.out.below⟩
end Go.Proofs.YtbgheehjfnoiiaaGreatDoor
