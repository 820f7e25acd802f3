/-
  Contracts of the functions that the law reaches: CodeApart, of two records of bounded texts. An entry's record that came in, of bounded bulk.
-/
import Derived.Test.YtgcfhkceejcliaaGreatDoorAp33
import Derived.Test.YtgcfhkceejcliaaGreatDoorAp34
import Derived.Test.YtgcfhkceejcliaaGreatDoorAp35
import Derived.Test.YtgcfhkceejcliaaGreatDoorAp31
import Derived.Test.YtgcfhkceejcliaaGreatDoorAp16
import Derived.Deep.RegionHeldLaw
import Derived.Test.YtgcfhkceejcliaaGreatDoorRows
namespace Go.Proofs.YtgcfhkceejcliaaGreatDoor
open Go.RowKit
theorem isEntry_later9 {w w':World} {x:En} {c:EC} (h:IsEntry w w.heap.size x c) (hb:Below w.heap.size w w'):IsEntry w' w'.heap.size x c:=h.later_ hb
theorem IsB.later9 {w w':World} {a:Option Addr} {n c:Nat} {bs:List UInt8} (h:IsB w w.heap.size a n c bs) (hb:Below w.heap.size w w'):IsB w' w'.heap.size a n c bs:=h.later6 hb
theorem encode_snd {w:World} {c:EC} {x:En} (hT:Tabs w) (hx:IsEntry w w.heap.size x c) (hsm:x.small) (hs:enSound x=true) (hl:(encE x).length≤60000):
    Calls Tryz.prog 8 #[.agg #[.int .u8 c.k, .int .u32 c.src, .int .u32 c.seq, .int .u8 c.v.k, .int .i64 c.v.n, .string c.v.s, .slice c.v.la c.v.ll c.v.lc, .slice c.v.oa c.v.ol c.v.oc, .slice c.oa c.ol c.oc]] w fun e w'=>(∃a n cc,e= .returned (.tuple #[.slice a n cc, .int .u16 0])∧IsB w' w'.heap.size a n cc (encE x))∧Below w.heap.size w w':=by
  have HS:Hid (∀W,Below w.heap.size w W→Calls Tryz.prog 10 #[.agg #[.int .u8 c.k, .int .u32 c.src, .int .u32 c.seq, .int .u8 c.v.k, .int .i64 c.v.n, .string c.v.s, .slice c.v.la c.v.ll c.v.lc, .slice c.v.oa c.v.ol c.v.oc, .slice c.oa c.ol c.oc]] W fun e w'=>e= .returned (.bool true)∧Below W.heap.size W w'):=fun W hW=>by rw [←hs];exact enSound_any x W (hT.below hW) c (isEntry_later9 hx hW) hsm
  have e1:outN true (encE x)=0:=by rw [outN,if_pos rfl,if_neg (by omega)]
  have e2:outB true (encE x)=encE x:=by rw [outB,if_pos rfl,if_neg (by omega)]
  rw [←e1]
  conv=> { arg 5;intro e w';lhs;arg 1;intro a;arg 1;intro n;arg 1;intro cc;rhs;arg 6;rw [←e2] }
  cases hx with
  | mk c v l hb hv ho=>
    obtain ⟨k,src,seq,⟨vk,vn,vs,vla,vll,vlc,voa,vol,voc⟩,oa,ol,oc⟩:=c
    exact encode_of true w k src seq vk vn vs vla vll vlc voa vol voc oa ol oc v l hb.k0 hb.k1 hv ho HS (fun _=>Nat.le_trans hl (by decide))
theorem IsRec.told {w:World} {B:Nat} {x:Rc} {c:RC} (h:IsRec w B x c):IsRec w B { x with snd:=true } { c with snd:=true } :=by
  cases h with
  |mk _ v o a hbd hv ho ha=>exact .mk { c with snd:=true } v o a ⟨hbd.k0,hbd.k1,hbd.src0,hbd.src1,hbd.seq0,hbd.seq1⟩ hv ho ha
theorem isRec_later9 {w W:World} {x:Rc} {c:RC} (h:IsRec w w.heap.size x c) (hW:Below w.heap.size w W):IsRec W W.heap.size x c:=by
  cases h with
  |mk _ v o a hbd hv ho ha=>exact .mk _ v o a hbd (hv.later_ hW) (by
        obtain ⟨h1,h2,h3,b,q,f,h5,h6⟩:=ho.keep hW
        exact ⟨h1,h2,h3,b,q,f,fun hn=>⟨(h5 hn).1,Nat.lt_of_lt_of_le (h5 hn).2 hW.size⟩,fun i hi=>⟨(h6 i hi).1,by
          have h7:=(h6 i hi).2
          revert h7
          generalize o[i] =ob
          generalize f i=fb
          intro h7
          cases h7 with
          |mk _ p v hb hp hv=>exact .mk _ p v hb (hp.more hW.size) (hv.more hW.size)⟩⟩) (ha.later_ hW)
theorem asum_hv (l:List Ac):asum l≤hv6 l:=by
  induction l with
  |nil=>simp [asum,hv6]
  | cons a r ih=>
    have h:tsum a.v≤hvT a.v:=by
      generalize a.v=l
      induction l with
      |nil=>simp [tsum,hvT]
      |cons t r ih=>unfold tsum hvT at*;simp only [List.map_cons,List.sum_cons];omega
    unfold asum hv6 at*
    simp only [List.map_cons,List.sum_cons,hvA];omega
theorem asum_small (x:Rc) (h:hv10 x≤3000):asum x.acts≤3000:=by
  have:=asum_hv x.acts
  unfold hv10 at h
  omega
theorem hv10_snd (x:Rc):hv10 { x with snd:=true } =hv10 x:=rfl
structure B2 (w:World) (c d:RC) (W:World):Prop where
  r:BC W w.heap.size (rcells { c with snd:=true })
  s:BC W (w.heap.size+1) (rcells { d with snd:=true })
  below:Below w.heap.size w W
theorem B2.keep {w W W':World} {c d:RC} (h:B2 w c d W) (hb:Below W.heap.size W W'):B2 w c d W':=
  ⟨h.r.keep hb h.r.lt,h.s.keep hb h.s.lt,h.below.trans (hb.mono h.below.size)⟩
theorem B2.start (w:World) (c d:RC) (t1 t2:TypeId):B2 w c d ((w.alloc (.cells #[.int .u8 c.k, .int .u32 c.src, .int .u32 c.seq, .slice c.va c.vl c.vc, .slice c.oa c.ol c.oc, .slice c.aa c.al c.ac, .bool true] t1)).alloc (.cells #[.int .u8 d.k, .int .u32 d.src, .int .u32 d.seq, .slice d.va d.vl d.vc, .slice d.oa d.ol d.oc, .slice d.aa d.al d.ac, .bool true] t2)):=by
  have b1:Below w.heap.size w (w.alloc (.cells #[.int .u8 c.k, .int .u32 c.src, .int .u32 c.seq, .slice c.va c.vl c.vc, .slice c.oa c.ol c.oc, .slice c.aa c.al c.ac, .bool true] t1)):=(Below.refl _ _).alloc (Nat.le_refl _) _
  have x1:BC (w.alloc (.cells #[.int .u8 c.k, .int .u32 c.src, .int .u32 c.seq, .slice c.va c.vl c.vc, .slice c.oa c.ol c.oc, .slice c.aa c.al c.ac, .bool true] t1)) w.heap.size (rcells { c with snd:=true }):=BC.start w #[.int .u8 c.k, .int .u32 c.src, .int .u32 c.seq, .slice c.va c.vl c.vc, .slice c.oa c.ol c.oc, .slice c.aa c.al c.ac, .bool true] t1
  obtain ⟨w1,hw1⟩:∃w1,w.alloc (.cells #[.int .u8 c.k, .int .u32 c.src, .int .u32 c.seq, .slice c.va c.vl c.vc, .slice c.oa c.ol c.oc, .slice c.aa c.al c.ac, .bool true] t1)=w1:=⟨_,rfl⟩
  have s1:w1.heap.size=w.heap.size+1:=by rw [←hw1,World.size_alloc]
  rw [hw1] at b1 x1 ⊢
  have b2:Below w1.heap.size w1 (w1.alloc (.cells #[.int .u8 d.k, .int .u32 d.src, .int .u32 d.seq, .slice d.va d.vl d.vc, .slice d.oa d.ol d.oc, .slice d.aa d.al d.ac, .bool true] t2)):=(Below.refl _ _).alloc (Nat.le_refl _) _
  have x2:BC (w1.alloc (.cells #[.int .u8 d.k, .int .u32 d.src, .int .u32 d.seq, .slice d.va d.vl d.vc, .slice d.oa d.ol d.oc, .slice d.aa d.al d.ac, .bool true] t2)) (w.heap.size+1) (rcells { d with snd:=true }):=by rw [←s1];exact BC.start w1 #[.int .u8 d.k, .int .u32 d.src, .int .u32 d.seq, .slice d.va d.vl d.vc, .slice d.oa d.ol d.oc, .slice d.aa d.al d.ac, .bool true] t2
  exact ⟨x1.keep b2 x1.lt,x2,b1.trans (b2.mono (by omega))⟩
set_option maxHeartbeats 16000000 in
set_option maxRecDepth 100000 in
theorem codeApart_any (w:World) (hT:Tabs w) (c d:RC) (x y:Rc) (hx:IsRec w w.heap.size x c) (hy:IsRec w w.heap.size y d) (zx:hv10 x≤1099511627776) (zy:hv10 y≤1099511627776)
    (sx:(entryP { x with snd:=true }).small) (sy:(entryP { y with snd:=true }).small):
    Calls Tryz.prog 4 #[.agg #[.int .u8 c.k, .int .u32 c.src, .int .u32 c.seq, .slice c.va c.vl c.vc, .slice c.oa c.ol c.oc, .slice c.aa c.al c.ac, .bool c.snd], .agg #[.int .u8 d.k, .int .u32 d.src, .int .u32 d.seq, .slice d.va d.vl d.vc, .slice d.oa d.ol d.oc, .slice d.aa d.al d.ac, .bool d.snd]] w fun e w'=>e= .returned (.bool true)∧Below w.heap.size w w':=by
  have hRX:=hx.told
  have hRY:=hy.told
  obtain ⟨x1,hx1⟩:∃x1:Rc, { x with snd:=true } =x1:=⟨_,rfl⟩
  obtain ⟨y1,hy1⟩:∃y1:Rc, { y with snd:=true } =y1:=⟨_,rfl⟩
  have zx1:hv10 x1≤1099511627776:=by rw [←hx1,hv10_snd];exact zx
  have zy1:hv10 y1≤1099511627776:=by rw [←hy1,hv10_snd];exact zy
  have tx1:x1.snd=true:=by rw [←hx1]
  have ty1:y1.snd=true:=by rw [←hy1]
  rw [hx1] at hRX sx
  rw [hy1] at hRY sy
  clear hx1 hy1 hx hy zx zy
  have HD:=Lib.hid (B2.start w c d 27 27)
  obtain ⟨nx,hnx⟩:∃nx:Int,((hv10 x1:Nat):Int)=nx:=⟨_,rfl⟩
  obtain ⟨ny,hny⟩:∃ny:Int,((hv10 y1:Nat):Int)=ny:=⟨_,rfl⟩
  have HHX:Hid (∀W,Below w.heap.size w W→Calls Tryz.prog 5 #[.agg #[.int .u8 c.k, .int .u32 c.src, .int .u32 c.seq, .slice c.va c.vl c.vc, .slice c.oa c.ol c.oc, .slice c.aa c.al c.ac, .bool true]] W fun e w'=>e= .returned (.int .i64 nx)∧Below W.heap.size W w'):=fun W hW=>by rw [←hnx];exact heavy10_the W { c with snd:=true } x1 (isRec_later9 hRX hW) zx1
  have HHY:Hid (∀W,Below w.heap.size w W→Calls Tryz.prog 5 #[.agg #[.int .u8 d.k, .int .u32 d.src, .int .u32 d.seq, .slice d.va d.vl d.vc, .slice d.oa d.ol d.oc, .slice d.aa d.al d.ac, .bool true]] W fun e w'=>e= .returned (.int .i64 ny)∧Below W.heap.size W w'):=fun W hW=>by rw [←hny];exact heavy10_the W { d with snd:=true } y1 (isRec_later9 hRY hW) zy1
  have HEX:Hid (∀W,Below w.heap.size w W→Calls Tryz.prog 7 #[.agg #[.int .u8 c.k, .int .u32 c.src, .int .u32 c.seq, .slice c.va c.vl c.vc, .slice c.oa c.ol c.oc, .slice c.aa c.al c.ac, .bool true]] W (EntryPost W (entryP x1))):=fun W hW=>ent10_any W { c with snd:=true } x1 (isRec_later9 hRX hW) (hT.below hW)
  have HEY:Hid (∀W,Below w.heap.size w W→Calls Tryz.prog 7 #[.agg #[.int .u8 d.k, .int .u32 d.src, .int .u32 d.seq, .slice d.va d.vl d.vc, .slice d.oa d.ol d.oc, .slice d.aa d.al d.ac, .bool true]] W (EntryPost W (entryP y1))):=fun W hW=>ent10_any W { d with snd:=true } y1 (isRec_later9 hRY hW) (hT.below hW)
  have HK:Hid (∀W,Below w.heap.size w W→Calls Tryz.prog 6 #[] W fun e w'=>e= .returned (.bool true)∧Below W.heap.size W w'):=fun W hW=>known_any W (hT.below hW)
  have hex:=entry_sound x1 tx1
  have hey:=entry_sound y1 ty1
  have hlx:nx≤3000→(encE (entryP x1)).length≤60000:=fun h=>Nat.le_trans (entry_bytes x1 tx1 (asum_small x1 (by omega))) (by decide)
  have hly:ny≤3000→(encE (entryP y1)).length≤60000:=fun h=>Nat.le_trans (entry_bytes y1 ty1 (asum_small y1 (by omega))) (by decide)
  obtain ⟨ex,hexe⟩:∃ex,entryP x1=ex:=⟨_,rfl⟩
  obtain ⟨ey,heye⟩:∃ey,entryP y1=ey:=⟨_,rfl⟩
  rw [hexe] at HEX sx hex hlx
  rw [heye] at HEY sy hey hly
  have HCX:Hid (nx≤3000→∀W (q:EC),Below w.heap.size w W→IsEntry W W.heap.size ex q→Calls Tryz.prog 8 #[.agg #[.int .u8 q.k, .int .u32 q.src, .int .u32 q.seq, .int .u8 q.v.k, .int .i64 q.v.n, .string q.v.s, .slice q.v.la q.v.ll q.v.lc, .slice q.v.oa q.v.ol q.v.oc, .slice q.oa q.ol q.oc]] W fun e w'=>(∃a n cc,e= .returned (.tuple #[.slice a n cc, .int .u16 0])∧IsB w' w'.heap.size a n cc (encE ex))∧Below W.heap.size W w'):=fun h W q hW hI=>encode_snd (hT.below hW) hI sx hex (hlx h)
  have HCY:Hid (ny≤3000→∀W (q:EC),Below w.heap.size w W→IsEntry W W.heap.size ey q→Calls Tryz.prog 8 #[.agg #[.int .u8 q.k, .int .u32 q.src, .int .u32 q.seq, .int .u8 q.v.k, .int .i64 q.v.n, .string q.v.s, .slice q.v.la q.v.ll q.v.lc, .slice q.v.oa q.v.ol q.v.oc, .slice q.oa q.ol q.oc]] W fun e w'=>(∃a n cc,e= .returned (.tuple #[.slice a n cc, .int .u16 0])∧IsB w' w'.heap.size a n cc (encE ey))∧Below W.heap.size W w'):=fun h W q hW hI=>encode_snd (hT.below hW) hI sy hey (hly h)
  obtain ⟨sb,hsb⟩:∃sb,eqB ex ey=sb:=⟨_,rfl⟩
  have HSM:Hid (∀W (p q:EC),IsEntry W W.heap.size ex p→IsEntry W W.heap.size ey q→Calls Tryz.prog 12 #[.agg #[.int .u8 p.k, .int .u32 p.src, .int .u32 p.seq, .int .u8 p.v.k, .int .i64 p.v.n, .string p.v.s, .slice p.v.la p.v.ll p.v.lc, .slice p.v.oa p.v.ol p.v.oc, .slice p.oa p.ol p.oc], .agg #[.int .u8 q.k, .int .u32 q.src, .int .u32 q.seq, .int .u8 q.v.k, .int .i64 q.v.n, .string q.v.s, .slice q.v.la q.v.ll q.v.lc, .slice q.v.oa q.v.ol q.v.oc, .slice q.oa q.ol q.oc]] W fun e w'=>e= .returned (.bool sb)∧Below W.heap.size W w'):=fun W p q hI hJ=>by rw [←hsb];exact refEnSame_any ex ey W p q hI hJ
  have HEQ:Hid (nx≤3000→ex.Num→ey.Num→sb=true→encE ex=encE ey):=fun _ _ _ h=>by rw [←hsb] at h;rw [eq_of_eqB h]
  have HNE:Hid (nx≤3000→ex.Num→ey.Num→sb=false→encE ex≠encE ey):=fun h h1 h2 h3 h4=>by
    have:=encE_inj hex h1 (hlx h) hey h2 h4
    subst this
    rw [eqB_yes rfl] at hsb
    rw [←hsb] at h3;cases h3
  obtain ⟨A,hA⟩:∃A,encE ex=A:=⟨_,rfl⟩
  obtain ⟨B,hB⟩:∃B,encE ey=B:=⟨_,rfl⟩
  rw [hA] at HCX HEQ HNE
  rw [hB] at HCY HEQ HNE
  clear hT hA hB hsb hexe heye hnx hny hRX hRY hex hey hlx hly sx sy zx1 zy1 tx1 ty1
  go_enter Tryz.func4,Tryz.ntmps4
  go_upto_region 3 with fail
  have HDD:=HD.out
  generalize hw2:World.alloc _ _=w2 at HDD ⊢
  clear hw2 HD
  have HB2:=Lib.hid HDD
  clear HDD
  have D0:=HB2.out.r;have D1:=HB2.out.s
  have q0:=D0.at_ 0 _ rfl;have q1:=D0.at_ 1 _ rfl;have q2:=D0.at_ 2 _ rfl;have q3:=D0.at_ 3 _ rfl;have q4:=D0.at_ 4 _ rfl;have q5:=D0.at_ 5 _ rfl;have q6:=D0.at_ 6 _ rfl
  have p0:=D1.at_ 0 _ rfl;have p1:=D1.at_ 1 _ rfl;have p2:=D1.at_ 2 _ rfl;have p3:=D1.at_ 3 _ rfl;have p4:=D1.at_ 4 _ rfl;have p5:=D1.at_ 5 _ rfl;have p6:=D1.at_ 6 _ rfl
  have zr:=D0.lt;have zs:=D1.lt
  clear D0 D1
  go_wp2_with fail
  refine (HHX.out _ HB2.out.below).mono ?_
  rintro e w3 ⟨rfl,hb3⟩
  have HB3:=Lib.hid (HB2.out.keep hb3)
  clear hb3 zr zs q0 p0 q1 p1 q2 p2 q3 p3 q4 p4 q5 p5 q6 p6
  have D0:=HB3.out.r;have D1:=HB3.out.s
  have q0:=D0.at_ 0 _ rfl;have q1:=D0.at_ 1 _ rfl;have q2:=D0.at_ 2 _ rfl;have q3:=D0.at_ 3 _ rfl;have q4:=D0.at_ 4 _ rfl;have q5:=D0.at_ 5 _ rfl;have q6:=D0.at_ 6 _ rfl
  have p0:=D1.at_ 0 _ rfl;have p1:=D1.at_ 1 _ rfl;have p2:=D1.at_ 2 _ rfl;have p3:=D1.at_ 3 _ rfl;have p4:=D1.at_ 4 _ rfl;have p5:=D1.at_ 5 _ rfl;have p6:=D1.at_ 6 _ rfl
  have zr:=D0.lt;have zs:=D1.lt
  clear D0 D1
  by_cases hz:3000<nx
  · go_wp2_with fail
    refine (HK.out _ HB3.out.below).mono ?_
    rintro e w4 ⟨rfl,hb4⟩
    go_wp2_with fail
    go_returns
    exact ⟨rfl,(HB3.out.keep hb4).below⟩
  · have f1:decide (3000<nx)=false:=decide_eq_false hz
    go_wp2_with fail
    refine (HHY.out _ HB3.out.below).mono ?_
    rintro e w4 ⟨rfl,hb4⟩
    have HB4:=Lib.hid (HB3.out.keep hb4)
    clear hb4 zr zs q0 p0 q1 p1 q2 p2 q3 p3 q4 p4 q5 p5 q6 p6
    have D0:=HB4.out.r;have D1:=HB4.out.s
    have q0:=D0.at_ 0 _ rfl;have q1:=D0.at_ 1 _ rfl;have q2:=D0.at_ 2 _ rfl;have q3:=D0.at_ 3 _ rfl;have q4:=D0.at_ 4 _ rfl;have q5:=D0.at_ 5 _ rfl;have q6:=D0.at_ 6 _ rfl
    have p0:=D1.at_ 0 _ rfl;have p1:=D1.at_ 1 _ rfl;have p2:=D1.at_ 2 _ rfl;have p3:=D1.at_ 3 _ rfl;have p4:=D1.at_ 4 _ rfl;have p5:=D1.at_ 5 _ rfl;have p6:=D1.at_ 6 _ rfl
    have zr:=D0.lt;have zs:=D1.lt
    clear D0 D1
    by_cases hy:3000<ny
    · go_wp2_with fail
      refine (HK.out _ HB4.out.below).mono ?_
      rintro e w5 ⟨rfl,hb5⟩
      go_wp2_with fail
      go_returns
      exact ⟨rfl,(HB4.out.keep hb5).below⟩
    · have f2:decide (3000<ny)=false:=decide_eq_false hy
      go_wp2_with fail
      refine (HK.out _ HB4.out.below).mono ?_
      rintro e w5 ⟨rfl,hb5⟩
      have HB5:=Lib.hid (HB4.out.keep hb5)
      clear hb5 zr zs q0 p0 q1 p1 q2 p2 q3 p3 q4 p4 q5 p5 q6 p6
      have D0:=HB5.out.r;have D1:=HB5.out.s
      have q0:=D0.at_ 0 _ rfl;have q1:=D0.at_ 1 _ rfl;have q2:=D0.at_ 2 _ rfl;have q3:=D0.at_ 3 _ rfl;have q4:=D0.at_ 4 _ rfl;have q5:=D0.at_ 5 _ rfl;have q6:=D0.at_ 6 _ rfl
      have p0:=D1.at_ 0 _ rfl;have p1:=D1.at_ 1 _ rfl;have p2:=D1.at_ 2 _ rfl;have p3:=D1.at_ 3 _ rfl;have p4:=D1.at_ 4 _ rfl;have p5:=D1.at_ 5 _ rfl;have p6:=D1.at_ 6 _ rfl
      have zr:=D0.lt;have zs:=D1.lt
      clear D0 D1
      have HC1:=Lib.hid (HCX.out (by omega))
      have HC2:=Lib.hid (HCY.out (by omega))
      have HE1:=Lib.hid (HEQ.out (by omega))
      have HE2:=Lib.hid (HNE.out (by omega))
      clear HCX HCY HEQ HNE hz hy
      go_wp2_with fail
      clear f1 f2
      refine (HEX.out _ HB5.out.below).mono ?_
      rintro e w6 ⟨⟨x6,rfl,hI6⟩,hb6⟩
      have HB6:=Lib.hid (HB5.out.keep hb6)
      clear hb6 zr zs q0 p0 q1 p1 q2 p2 q3 p3 q4 p4 q5 p5 q6 p6
      have D0:=HB6.out.r;have D1:=HB6.out.s
      have q0:=D0.at_ 0 _ rfl;have q1:=D0.at_ 1 _ rfl;have q2:=D0.at_ 2 _ rfl;have q3:=D0.at_ 3 _ rfl;have q4:=D0.at_ 4 _ rfl;have q5:=D0.at_ 5 _ rfl;have q6:=D0.at_ 6 _ rfl
      have p0:=D1.at_ 0 _ rfl;have p1:=D1.at_ 1 _ rfl;have p2:=D1.at_ 2 _ rfl;have p3:=D1.at_ 3 _ rfl;have p4:=D1.at_ 4 _ rfl;have p5:=D1.at_ 5 _ rfl;have p6:=D1.at_ 6 _ rfl
      have zr:=D0.lt;have zs:=D1.lt
      clear D0 D1
      have HI6:=Lib.hid hI6
      have HN6:=Lib.hid hI6.num
      clear hI6
      go_wp2_with fail
      refine (HC1.out _ x6 HB6.out.below HI6.out).mono ?_
      rintro e w7 ⟨⟨a1,n1,c1,rfl,hA7⟩,hb7⟩
      have HB7:=Lib.hid (HB6.out.keep hb7)
      clear hb7 zr zs q0 p0 q1 p1 q2 p2 q3 p3 q4 p4 q5 p5 q6 p6
      have D0:=HB7.out.r;have D1:=HB7.out.s
      have q0:=D0.at_ 0 _ rfl;have q1:=D0.at_ 1 _ rfl;have q2:=D0.at_ 2 _ rfl;have q3:=D0.at_ 3 _ rfl;have q4:=D0.at_ 4 _ rfl;have q5:=D0.at_ 5 _ rfl;have q6:=D0.at_ 6 _ rfl
      have p0:=D1.at_ 0 _ rfl;have p1:=D1.at_ 1 _ rfl;have p2:=D1.at_ 2 _ rfl;have p3:=D1.at_ 3 _ rfl;have p4:=D1.at_ 4 _ rfl;have p5:=D1.at_ 5 _ rfl;have p6:=D1.at_ 6 _ rfl
      have zr:=D0.lt;have zs:=D1.lt
      clear D0 D1
      have HA7:=Lib.hid hA7
      clear hA7
      go_wp2_with fail
      refine (HEY.out _ HB7.out.below).mono ?_
      rintro e w8 ⟨⟨y8,rfl,hI8⟩,hb8⟩
      have HA8:=Lib.hid (HA7.out.later9 hb8)
      have HB8:=Lib.hid (HB7.out.keep hb8)
      clear hb8 zr zs q0 p0 q1 p1 q2 p2 q3 p3 q4 p4 q5 p5 q6 p6
      have D0:=HB8.out.r;have D1:=HB8.out.s
      have q0:=D0.at_ 0 _ rfl;have q1:=D0.at_ 1 _ rfl;have q2:=D0.at_ 2 _ rfl;have q3:=D0.at_ 3 _ rfl;have q4:=D0.at_ 4 _ rfl;have q5:=D0.at_ 5 _ rfl;have q6:=D0.at_ 6 _ rfl
      have p0:=D1.at_ 0 _ rfl;have p1:=D1.at_ 1 _ rfl;have p2:=D1.at_ 2 _ rfl;have p3:=D1.at_ 3 _ rfl;have p4:=D1.at_ 4 _ rfl;have p5:=D1.at_ 5 _ rfl;have p6:=D1.at_ 6 _ rfl
      have zr:=D0.lt;have zs:=D1.lt
      clear D0 D1
      have HI8:=Lib.hid hI8
      have HN8:=Lib.hid hI8.num
      clear hI8
      go_wp2_with fail
      refine (HC2.out _ y8 HB8.out.below HI8.out).mono ?_
      rintro e w9 ⟨⟨a2,n2,c2,rfl,hB9⟩,hb9⟩
      have HA9:=Lib.hid (HA8.out.later9 hb9)
      have HB9:=Lib.hid (HB8.out.keep hb9)
      clear hb9 zr zs q0 p0 q1 p1 q2 p2 q3 p3 q4 p4 q5 p5 q6 p6
      have D0:=HB9.out.r;have D1:=HB9.out.s
      have q0:=D0.at_ 0 _ rfl;have q1:=D0.at_ 1 _ rfl;have q2:=D0.at_ 2 _ rfl;have q3:=D0.at_ 3 _ rfl;have q4:=D0.at_ 4 _ rfl;have q5:=D0.at_ 5 _ rfl;have q6:=D0.at_ 6 _ rfl
      have p0:=D1.at_ 0 _ rfl;have p1:=D1.at_ 1 _ rfl;have p2:=D1.at_ 2 _ rfl;have p3:=D1.at_ 3 _ rfl;have p4:=D1.at_ 4 _ rfl;have p5:=D1.at_ 5 _ rfl;have p6:=D1.at_ 6 _ rfl
      have zr:=D0.lt;have zs:=D1.lt
      clear D0 D1
      have HBB9:=Lib.hid hB9
      clear hB9
      go_wp2_with fail
      have hq:sb=true∧A=B∨sb=false∧A≠B:=by
        cases sb with
        |true=>exact .inl ⟨rfl,HE1.out HN6.out HN8.out rfl⟩
        |false=>exact .inr ⟨rfl,HE2.out HN6.out HN8.out rfl⟩
      have HQ:=Lib.hid hq
      have HFB:Hid (∀W,Below w9.heap.size w9.drew W→W.cell? ⟨w.heap.size,0,none⟩=some (.int .u8 c.k)∧W.cell? ⟨w.heap.size,1,none⟩=some (.int .u32 c.src)∧W.cell? ⟨w.heap.size,2,none⟩=some (.int .u32 c.seq)∧W.cell? ⟨w.heap.size,3,none⟩=some (.slice c.va c.vl c.vc)∧W.cell? ⟨w.heap.size,4,none⟩=some (.slice c.oa c.ol c.oc)∧W.cell? ⟨w.heap.size,5,none⟩=some (.slice c.aa c.al c.ac)∧W.cell? ⟨w.heap.size,6,none⟩=some (.bool true)∧W.cell? ⟨w.heap.size+1,0,none⟩=some (.int .u8 d.k)∧W.cell? ⟨w.heap.size+1,1,none⟩=some (.int .u32 d.src)∧W.cell? ⟨w.heap.size+1,2,none⟩=some (.int .u32 d.seq)∧W.cell? ⟨w.heap.size+1,3,none⟩=some (.slice d.va d.vl d.vc)∧W.cell? ⟨w.heap.size+1,4,none⟩=some (.slice d.oa d.ol d.oc)∧W.cell? ⟨w.heap.size+1,5,none⟩=some (.slice d.aa d.al d.ac)∧W.cell? ⟨w.heap.size+1,6,none⟩=some (.bool true)∧(convert 38 9 (.slice a1 n1 c1)).run Tryz.prog W= .ok (.string ⟨A.toArray⟩) W∧(convert 38 9 (.slice a2 n2 c2)).run Tryz.prog W= .ok (.string ⟨B.toArray⟩) W):=by
        intro W hW
        have hk:∀b o u,b<w9.heap.size→w9.cell? ⟨b,o,none⟩=some u→W.cell? ⟨b,o,none⟩=some u:=fun b o u zy h=>keep_cell hW (keep_cell (drew_below w9) h zy) zy
        exact ⟨hk _ _ _ zr q0,hk _ _ _ zr q1,hk _ _ _ zr q2,hk _ _ _ zr q3,hk _ _ _ zr q4,hk _ _ _ zr q5,hk _ _ _ zr q6,hk _ _ _ zs p0,hk _ _ _ zs p1,hk _ _ _ zs p2,hk _ _ _ zs p3,hk _ _ _ zs p4,hk _ _ _ zs p5,hk _ _ _ zs p6,conv_isB (HA9.out.later9 (below_of_drew hW)),conv_isB (HBB9.out.later9 (below_of_drew hW))⟩
      have HX9:Hid (∀W,Below w9.heap.size w9.drew W→Calls Tryz.prog 7 #[.agg #[.int .u8 c.k, .int .u32 c.src, .int .u32 c.seq, .slice c.va c.vl c.vc, .slice c.oa c.ol c.oc, .slice c.aa c.al c.ac, .bool true]] W (EntryPost W ex)):=fun W hW=>HEX.out W (HB9.out.below.trans ((below_of_drew hW).mono HB9.out.below.size))
      have HY9:Hid (∀W,Below w9.heap.size w9.drew W→Calls Tryz.prog 7 #[.agg #[.int .u8 d.k, .int .u32 d.src, .int .u32 d.seq, .slice d.va d.vl d.vc, .slice d.oa d.ol d.oc, .slice d.aa d.al d.ac, .bool true]] W (EntryPost W ey)):=fun W hW=>HEY.out W (HB9.out.below.trans ((below_of_drew hW).mono HB9.out.below.size))
      clear hq
      refine wp_region_noPanic ?_
      go_region_held_law (fun W=>W.cell? ⟨w.heap.size,0,none⟩=some (.int .u8 c.k)∧W.cell? ⟨w.heap.size,1,none⟩=some (.int .u32 c.src)∧W.cell? ⟨w.heap.size,2,none⟩=some (.int .u32 c.seq)∧W.cell? ⟨w.heap.size,3,none⟩=some (.slice c.va c.vl c.vc)∧W.cell? ⟨w.heap.size,4,none⟩=some (.slice c.oa c.ol c.oc)∧W.cell? ⟨w.heap.size,5,none⟩=some (.slice c.aa c.al c.ac)∧W.cell? ⟨w.heap.size,6,none⟩=some (.bool true)∧W.cell? ⟨w.heap.size+1,0,none⟩=some (.int .u8 d.k)∧W.cell? ⟨w.heap.size+1,1,none⟩=some (.int .u32 d.src)∧W.cell? ⟨w.heap.size+1,2,none⟩=some (.int .u32 d.seq)∧W.cell? ⟨w.heap.size+1,3,none⟩=some (.slice d.va d.vl d.vc)∧W.cell? ⟨w.heap.size+1,4,none⟩=some (.slice d.oa d.ol d.oc)∧W.cell? ⟨w.heap.size+1,5,none⟩=some (.slice d.aa d.al d.ac)∧W.cell? ⟨w.heap.size+1,6,none⟩=some (.bool true)∧(convert 38 9 (.slice a1 n1 c1)).run Tryz.prog W= .ok (.string ⟨A.toArray⟩) W∧(convert 38 9 (.slice a2 n2 c2)).run Tryz.prog W= .ok (.string ⟨B.toArray⟩) W)
        ((refine HFB.out _ ?_;(first|(with_reducible exact bl12)|(with_reducible exact bl11)|(with_reducible exact bl10)|(with_reducible exact Below.refl _ _))))
        (first
          |(go_at_call 7;(with_reducible refine (HX9.out _ (Below.refl _ _)).mono ?_);rintro e w10 ⟨⟨xi,rfl,hIx⟩,hb10⟩;have bl10:Below w9.heap.size w9.drew w10:=hb10)
          |(go_at_call 7;(with_reducible refine (HY9.out _ (Below.refl _ _)).mono ?_);rintro e w10 ⟨⟨yi,rfl,hIy⟩,hb10⟩;have bl10:Below w9.heap.size w9.drew w10:=hb10)
          |(go_at_call 7;(with_reducible refine (HX9.out _ bl10).mono ?_);rintro e w11 ⟨⟨xi,rfl,hIx⟩,hb11⟩;have hIy2:=isEntry_later9 hIy hb11;have hIx2:=hIx;have bl11:Below w9.heap.size w9.drew w11:=bl10.trans (hb11.mono bl10.size))
          |(go_at_call 7;(with_reducible refine (HY9.out _ bl10).mono ?_);rintro e w11 ⟨⟨yi,rfl,hIy⟩,hb11⟩;have hIx2:=isEntry_later9 hIx hb11;have hIy2:=hIy;have bl11:Below w9.heap.size w9.drew w11:=bl10.trans (hb11.mono bl10.size))
          |(go_at_call 12;(with_reducible refine (HSM.out _ _ _ hIx2 hIy2).mono ?_);rintro e w12 ⟨rfl,hb12⟩;have bl12:Below w9.heap.size w9.drew w12:=bl11.trans (hb12.mono bl11.size)))
      all_goals
        refine NoPanic.normal ?_
        have hbool:((A==B)==sb)=true:=by
          rcases HQ.out with ⟨h1,h2⟩|⟨h1,h2⟩
          · rw [h1,h2];simp
          · rw [h1];simp [h2]
        rw [hbool]
        clear hbool
        go_wp2_with fail
        go_returns
        exact ⟨rfl,HB9.out.below.trans ((below_of_drew bl12).mono HB9.out.below.size)⟩
end Go.Proofs.YtgcfhkceejcliaaGreatDoor
namespace Go.Proofs.YtgcfhkceejcliaaGreatDoor
open Go.ChangeShapes Go.WideShapes Go.ChangeAt Go.RowKit Go.Lib Go.Deep
instance:Inhabited St:=⟨⟨false,0, .empty⟩⟩
instance:Inhabited AC:=⟨⟨none,0,0,0,0,0,0, .empty,none,0,0⟩⟩
instance:Inhabited Ac:=⟨⟨[],0,0,0,0, .empty, []⟩⟩
instance:Inhabited BA:=⟨⟨0,none,0,0, .empty,0,0,0, .empty,none,0,0⟩⟩
instance:Inhabited Ba:=⟨⟨0, [], .empty,0,0,0, .empty, []⟩⟩
theorem bulk_part {H:Type} {d:DataW H} {l:List (DataW H)} (h:d ∈ l):Rows.uptoBulk d≤Rows.uptoBulkAll l:=by
  induction l with
  |nil=>cases h
  | cons x r ih=>
    simp only [Rows.uptoBulkAll]
    rcases List.mem_cons.1 h with e|e
    · subst e;omega
    · have:=ih e;omega
theorem bulk_one {H:Type} (d:DataW H):1≤Rows.uptoBulk d:=by
  cases d with
  |lit l=>cases l<;>simp [Rows.uptoBulk]
  |nil=>simp [Rows.uptoBulk]
  |ptr d=>simp [Rows.uptoBulk]
  |slice elems spare=>simp [Rows.uptoBulk]
  |agg parts=>simp [Rows.uptoBulk]
  |iface t d=>simp [Rows.uptoBulk]
  |map entries=>simp [Rows.uptoBulk]
  |held h=>simp [Rows.uptoBulk]
theorem bulk_len {H:Type} (l:List (DataW H)):l.length≤Rows.uptoBulkAll l:=by
  induction l with
  |nil=>simp [Rows.uptoBulkAll]
  |cons x r ih=>have:=bulk_one x;simp only [Rows.uptoBulkAll,List.length_cons];omega
structure InRow {T:Type} (W:World) (sz:Nat) (cells:T→List Value) (Q:T→Prop) (l:List T) (a:Option Addr) (n c:Nat):Prop where
  len:n=l.length
  cap:n≤c
  max:c≤9223372036854775807
  few:n≤1048576
  at_:∃b o,(0<n→a=some ⟨b,o,none⟩∧b<W.heap.size)∧∀i (h:i<l.length),(∀j u,(cells l[i])[j]? =some u→W.cell? ⟨b,o+i*sz+j,none⟩=some u)∧Q l[i]
theorem list3 {α:Type} {l:List α} (h:l.length=3):∃v0 v1 v2,l= [v0,v1,v2] :=by
  match l,h with
  | [v0,v1,v2],_=>exact ⟨v0,v1,v2,rfl⟩
theorem trod_struct36 {H:Type} {enc:TypeId×Value→H} {P:Program} {w:World} {base:Nat} {spare:Nat→Bool} {held:Bool} {t:TypeId} {f0 f1 f2:Field} {fuel:Nat} {cs:List Value} {x:DataW H×List MemPlace} (ht:P.underlying t=some (.struct #[f0,f1,f2])) (h:DataW.trod enc P w base spare held fuel t cs=some x):
    ∃(y0 y1 y2:DataW H×List MemPlace) (n:Nat),x.1= .agg [y0.1,y1.1,y2.1] ∧cs.length=P.cellsOf t∧DataW.trod enc P w base spare held n f0.type ((cs.drop f0.offset).take (P.cellsOf f0.type))=some y0∧DataW.trod enc P w base spare held n f1.type ((cs.drop f1.offset).take (P.cellsOf f1.type))=some y1∧DataW.trod enc P w base spare held n f2.type ((cs.drop f2.offset).take (P.cellsOf f2.type))=some y2:=by
  obtain ⟨xs,n,_,rfl,hl,hlen,hf⟩:=DataW.trod_struct ht h
  match xs,hlen with
  | [y0,y1,y2],_=>exact ⟨y0,y1,y2,n,by simp,hl,by simpa using hf 0 f0 rfl,by simpa using hf 1 f1 rfl,by simpa using hf 2 f2 rfl⟩
theorem list4 {α:Type} {l:List α} (h:l.length=4):∃v0 v1 v2 v3,l= [v0,v1,v2,v3] :=by
  match l,h with
  | [v0,v1,v2,v3],_=>exact ⟨v0,v1,v2,v3,rfl⟩
theorem trod_struct46 {H:Type} {enc:TypeId×Value→H} {P:Program} {w:World} {base:Nat} {spare:Nat→Bool} {held:Bool} {t:TypeId} {f0 f1 f2 f3:Field} {fuel:Nat} {cs:List Value} {x:DataW H×List MemPlace} (ht:P.underlying t=some (.struct #[f0,f1,f2,f3])) (h:DataW.trod enc P w base spare held fuel t cs=some x):
    ∃(y0 y1 y2 y3:DataW H×List MemPlace) (n:Nat),x.1= .agg [y0.1,y1.1,y2.1,y3.1] ∧cs.length=P.cellsOf t∧DataW.trod enc P w base spare held n f0.type ((cs.drop f0.offset).take (P.cellsOf f0.type))=some y0∧DataW.trod enc P w base spare held n f1.type ((cs.drop f1.offset).take (P.cellsOf f1.type))=some y1∧DataW.trod enc P w base spare held n f2.type ((cs.drop f2.offset).take (P.cellsOf f2.type))=some y2∧DataW.trod enc P w base spare held n f3.type ((cs.drop f3.offset).take (P.cellsOf f3.type))=some y3:=by
  obtain ⟨xs,n,_,rfl,hl,hlen,hf⟩:=DataW.trod_struct ht h
  match xs,hlen with
  | [y0,y1,y2,y3],_=>exact ⟨y0,y1,y2,y3,n,by simp,hl,by simpa using hf 0 f0 rfl,by simpa using hf 1 f1 rfl,by simpa using hf 2 f2 rfl,by simpa using hf 3 f3 rfl⟩
theorem list7 {α:Type} {l:List α} (h:l.length=7):∃v0 v1 v2 v3 v4 v5 v6,l= [v0,v1,v2,v3,v4,v5,v6] :=by
  match l,h with
  | [v0,v1,v2,v3,v4,v5,v6],_=>exact ⟨v0,v1,v2,v3,v4,v5,v6,rfl⟩
theorem trod_struct76 {H:Type} {enc:TypeId×Value→H} {P:Program} {w:World} {base:Nat} {spare:Nat→Bool} {held:Bool} {t:TypeId} {f0 f1 f2 f3 f4 f5 f6:Field} {fuel:Nat} {cs:List Value} {x:DataW H×List MemPlace} (ht:P.underlying t=some (.struct #[f0,f1,f2,f3,f4,f5,f6])) (h:DataW.trod enc P w base spare held fuel t cs=some x):
    ∃(y0 y1 y2 y3 y4 y5 y6:DataW H×List MemPlace) (n:Nat),x.1= .agg [y0.1,y1.1,y2.1,y3.1,y4.1,y5.1,y6.1] ∧cs.length=P.cellsOf t∧DataW.trod enc P w base spare held n f0.type ((cs.drop f0.offset).take (P.cellsOf f0.type))=some y0∧DataW.trod enc P w base spare held n f1.type ((cs.drop f1.offset).take (P.cellsOf f1.type))=some y1∧DataW.trod enc P w base spare held n f2.type ((cs.drop f2.offset).take (P.cellsOf f2.type))=some y2∧DataW.trod enc P w base spare held n f3.type ((cs.drop f3.offset).take (P.cellsOf f3.type))=some y3∧DataW.trod enc P w base spare held n f4.type ((cs.drop f4.offset).take (P.cellsOf f4.type))=some y4∧DataW.trod enc P w base spare held n f5.type ((cs.drop f5.offset).take (P.cellsOf f5.type))=some y5∧DataW.trod enc P w base spare held n f6.type ((cs.drop f6.offset).take (P.cellsOf f6.type))=some y6:=by
  obtain ⟨xs,n,_,rfl,hl,hlen,hf⟩:=DataW.trod_struct ht h
  match xs,hlen with
  | [y0,y1,y2,y3,y4,y5,y6],_=>exact ⟨y0,y1,y2,y3,y4,y5,y6,n,by simp,hl,by simpa using hf 0 f0 rfl,by simpa using hf 1 f1 rfl,by simpa using hf 2 f2 rfl,by simpa using hf 3 f3 rfl,by simpa using hf 4 f4 rfl,by simpa using hf 5 f5 rfl,by simpa using hf 6 f6 rfl⟩
theorem list8 {α:Type} {l:List α} (h:l.length=8):∃v0 v1 v2 v3 v4 v5 v6 v7,l= [v0,v1,v2,v3,v4,v5,v6,v7] :=by
  match l,h with
  | [v0,v1,v2,v3,v4,v5,v6,v7],_=>exact ⟨v0,v1,v2,v3,v4,v5,v6,v7,rfl⟩
theorem trod_struct86 {H:Type} {enc:TypeId×Value→H} {P:Program} {w:World} {base:Nat} {spare:Nat→Bool} {held:Bool} {t:TypeId} {f0 f1 f2 f3 f4 f5 f6 f7:Field} {fuel:Nat} {cs:List Value} {x:DataW H×List MemPlace} (ht:P.underlying t=some (.struct #[f0,f1,f2,f3,f4,f5,f6,f7])) (h:DataW.trod enc P w base spare held fuel t cs=some x):
    ∃(y0 y1 y2 y3 y4 y5 y6 y7:DataW H×List MemPlace) (n:Nat),x.1= .agg [y0.1,y1.1,y2.1,y3.1,y4.1,y5.1,y6.1,y7.1] ∧cs.length=P.cellsOf t∧DataW.trod enc P w base spare held n f0.type ((cs.drop f0.offset).take (P.cellsOf f0.type))=some y0∧DataW.trod enc P w base spare held n f1.type ((cs.drop f1.offset).take (P.cellsOf f1.type))=some y1∧DataW.trod enc P w base spare held n f2.type ((cs.drop f2.offset).take (P.cellsOf f2.type))=some y2∧DataW.trod enc P w base spare held n f3.type ((cs.drop f3.offset).take (P.cellsOf f3.type))=some y3∧DataW.trod enc P w base spare held n f4.type ((cs.drop f4.offset).take (P.cellsOf f4.type))=some y4∧DataW.trod enc P w base spare held n f5.type ((cs.drop f5.offset).take (P.cellsOf f5.type))=some y5∧DataW.trod enc P w base spare held n f6.type ((cs.drop f6.offset).take (P.cellsOf f6.type))=some y6∧DataW.trod enc P w base spare held n f7.type ((cs.drop f7.offset).take (P.cellsOf f7.type))=some y7:=by
  obtain ⟨xs,n,_,rfl,hl,hlen,hf⟩:=DataW.trod_struct ht h
  match xs,hlen with
  | [y0,y1,y2,y3,y4,y5,y6,y7],_=>exact ⟨y0,y1,y2,y3,y4,y5,y6,y7,n,by simp,hl,by simpa using hf 0 f0 rfl,by simpa using hf 1 f1 rfl,by simpa using hf 2 f2 rfl,by simpa using hf 3 f3 rfl,by simpa using hf 4 f4 rfl,by simpa using hf 5 f5 rfl,by simpa using hf 6 f6 rfl,by simpa using hf 7 f7 rfl⟩
def Ba.low (b:Ba):Prop:=b.key.size≤1048576∧b.s.size≤1048576∧∀s ∈ b.path,s.key.size≤1048576
def bacells (c:BA):List Value:= [.int .u8 c.k, .slice c.pa c.pl c.pc, .string c.key, .int .i64 c.i, .int .i64 c.j, .int .i64 c.n, .string c.s, .slice c.va c.vl c.vc]
end Go.Proofs.YtgcfhkceejcliaaGreatDoor
