/-
  Contracts of the functions that the law reaches: val.Deep: of a value in memory it is the plain function's answer. Writers: a block that holds a slice of bytes which grows.
-/
import Derived.Test.YthceefjafklcmaaGreatDoorMd3
import Derived.Handy
import Derived.Deep.RegionLaw
import Derived.Deep.RegionHeld3
import Derived.Deep.AppendLies
import Derived.Lib.AppendStr
namespace Go.Proofs.YthceefjafklcmaaGreatDoor
open Go.RowKit Go.Shelf
attribute [local go_sem] Oper.semAt_some
def VDeep (v:V):Prop:=v.weight≤4611686018427387904→∀(w:World) (c:VC),IsVal w w.heap.size v c→
    Calls Tryz.prog 93 #[.agg #[.int .u8 c.k, .int .i64 c.n, .string c.s, .slice c.la c.ll c.lc, .slice c.oa c.ol c.oc]] w fun e w'=>e= .returned (.int .i64 v.deep)∧Below w.heap.size w w'
theorem kids_deep {w:World} {P:V→Prop} (pre:List (Kid w P)) (x:Kid w P):((deepO ((pre++ [x]).map Kid.pair):Nat):Int)=max ((deepO (pre.map Kid.pair):Nat):Int) ((x.v.deep:Int)+1):=by
  rw [List.map_append,deepO_append];simp only [List.map_cons,List.map_nil,deepO,deepF_eq,Kid.pair];omega
theorem pairs_deep (l:List V) (o:List (ByteArray×V)):deepO (pairs l o)=max (deepL l) (deepO o):=by
  unfold pairs
  rw [deepO_append]
  congr 1
  induction l with
  |nil=>rfl
  |cons v r ih=>simp only [List.map_cons,deepO,deepF_eq,deepL,ih]
set_option maxHeartbeats 4000000 in
set_option maxRecDepth 100000 in
theorem valDeep_any (a:V):VDeep a:=by
  induction a using V.ind with
  |h k n s l o ihl iho=>
  intro hw w c ha
  obtain ⟨rfl,rfl,rfl,cbd,hl,ho⟩:=ha.lists
  have hw0:1+c.s.size+weightL l+weightO o≤4611686018427387904:=by simpa only [V.weight] using hw
  obtain ⟨ks,hks,hpr⟩:=kids_of w (fun v=>VDeep v∧v.weight≤4611686018427387904) l o c hl ho
    (fun v hv=>⟨ihl v hv,by obtain ⟨i,hi,rfl⟩:=List.getElem_of_mem hv;have:=weightL_mem l i hi;omega⟩)
    (fun f hf=>⟨iho f hf,by obtain ⟨i,hi,rfl⟩:=List.getElem_of_mem hf;have:=weightO_mem o i hi;omega⟩)
  clear ihl iho ha hl ho
  have c5:=cbd.s1
  refine callsIn_wide (n:=3)|>.1 ?_
  refine callsIn_of_wp_marks Tryz.func93 rfl trivial ?_ rfl
  simp only [Tryz.ntmps93,List.size_toArray,List.length_cons,List.length_nil,Nat.reduceAdd,Nat.reduceSub,Array.replicate_succ,Array.replicate_zero,List.push_toArray,List.append_toArray,List.nil_append,List.cons_append]
  gi_wp2_with (refine ⟨trivial, ?_⟩;gi_at_call 109;refine (within_in _ _ trivial rfl c _).mono ?_;rintro e w' ⟨rfl,rfl⟩)
  obtain ⟨W0,hW0⟩:∃W0,(((w.alloc (.cells #[.int .u8 c.k, .int .i64 c.n, .string c.s, .slice c.la c.ll c.lc, .slice c.oa c.ol c.oc] 28)).alloc (.cells #[.int .i64 0] 3)).alloc (.cells #[.int .u8 c.k, .int .i64 c.n, .string c.s, .slice c.la c.ll c.lc, .slice c.oa c.ol c.oc] 28))=W0:=⟨_,rfl⟩
  have hB0:Below w.heap.size w W0:=by rw [←hW0];exact (((Below.refl _ _).alloc (Nat.le_refl _) _).alloc (by simp) _).alloc (by simp;omega) _
  have hsz:W0.heap.size=w.heap.size+3:=by rw [←hW0];simp
  have hbx:ValAt W0 (w.heap.size+1+1) 0 c:=by
    rw [←hW0]
    have h:=valAt_new ((w.alloc (.cells #[.int .u8 c.k, .int .i64 c.n, .string c.s, .slice c.la c.ll c.lc, .slice c.oa c.ol c.oc] 28)).alloc (.cells #[.int .i64 0] 3)) c 28
    simp only [World.size_alloc] at h
    exact h
  have hn:Boxed W0 (w.heap.size+1) 3 (.int .i64 0):=by
    rw [←hW0]
    have h:=Boxed.new (w.alloc (.cells #[.int .u8 c.k, .int .i64 c.n, .string c.s, .slice c.la c.ll c.lc, .slice c.oa c.ol c.oc] 28)) 3 (.int .i64 0)
    rw [World.size_alloc] at h
    exact h.alloc _
  rw [hW0]
  clear hW0
  refine wpIn_rangeFunc_ownH (α:=Kid w (fun v=>VDeep v∧v.weight≤4611686018427387904)) rfl (by omega) (gf:=113) (lb:= #[.pointer (some ⟨w.heap.size+1+1,0,none⟩)]) rfl trivial (enters_of Tryz.func113 (by kernel_rfl) rfl)
    (within_stops Fence.wide 2 trivial rfl (by omega) w (fun v=>VDeep v∧v.weight≤4611686018427387904) (w.heap.size+1+1) c cbd ks W0 w.heap.size (by omega) (by omega) hbx (hks.keep (.of_below_any hB0))) keepAt_t (keepAt_b (by omega) (by omega)) (Below.refl _ _) (fun _=>rfl)
    (fun pre W=>(Boxed W (w.heap.size+1) 3 (.int .i64 ((deepO (pre.map Kid.pair):Nat):Int)))∧Below w.heap.size w W∧W0.heap.size≤W.heap.size)
    (fun _ _ _=>False)
    (OwnFrom.and (Own.from (boxed_own _ _ _) _) (OwnFrom.and (ownFrom_below (Nat.le_refl _) (by omega)) (fun _ _ _ _ hs hg _=>Nat.le_trans hs hg.size)))
    (fun _ _ _ _ _ hs _ _=>hs)
    ⟨by simp only [List.map_nil,deepO];exact hn,hB0,Nat.le_refl _⟩
    (fun x a' W=>∃Bx,W0.heap.size≤Bx∧ValAt W Bx 0 x.kv∧a'= { tmps:= #[.agg #[.int .u8 c.k, .int .i64 c.n, .string c.s, .slice c.la c.ll c.lc, .slice c.oa c.ol c.oc], .pointer (some ⟨w.heap.size,0,none⟩), .int .i64 0, .pointer (some ⟨w.heap.size+1,0,none⟩),undef, .pointer (some ⟨Bx,0,none⟩), .agg #[.int .u8 c.k, .int .i64 c.n, .string c.s, .slice c.la c.ll c.lc, .slice c.oa c.ol c.oc], .func (.func 113) #[] #[.pointer (some ⟨w.heap.size+1+1,0,none⟩)], .string x.kk, .agg #[.int .u8 x.kv.k, .int .i64 x.kv.n, .string x.kv.s, .slice x.kv.la x.kv.ll x.kv.lc, .slice x.kv.oa x.kv.ol x.kv.oc],undef,undef,undef,undef,undef,undef],defers:= [] })
    (fun x a' _ X Y row hs hg hr=>by
      obtain ⟨Bx,h1,h2,h3⟩:=hs
      exact ⟨Bx,h1,ValAt.own (β:=Unit) Bx 0 (fun _=>x.kv) () X Y row h2 hg (fun r e=>(hr r e).2),h3⟩)
    ?assign ?body ?done ?stop
  case assign=>
    rintro l pre x W K ⟨bS1,hB1,hz1⟩ hK
    dsimp only [Kid.encs]
    gi_wp2
    exact hK _ _ ((KeepsOthers.alloc _ _).from _) (KeepAt.alloc W _ (by omega) (by omega)) ⟨bS1.alloc _,hB1.alloc hB1.size _,by simp;omega⟩ ⟨W.heap.size,hz1,valAt_new W x.kv _,rfl⟩
  case body=>
    rintro l pre x a' W hl _ ⟨bS1,hB1,hz1⟩ ⟨Bx,hBx,vX,rfl⟩ hlt
    have cS:=bS1.cell
    have fS:=bS1.frozen
    have r0:W.cell? ⟨Bx,0,none⟩=some (.int .u8 x.kv.k):=vX.c0
    have r1:W.cell? ⟨Bx,1,none⟩=some (.int .i64 x.kv.n):=vX.c1
    have r2:W.cell? ⟨Bx,2,none⟩=some (.string x.kv.s):=vX.c2
    have r3:W.cell? ⟨Bx,3,none⟩=some (.slice x.kv.la x.kv.ll x.kv.lc):=vX.c3
    have r4:W.cell? ⟨Bx,4,none⟩=some (.slice x.kv.oa x.kv.ol x.kv.oc):=vX.c4
    have hmx:Tryz.prog.follows .mixedOrders=true:=by kernel_rfl
    have hcal:=fun (W':World) (h:Below w.heap.size w W')=>x.p.1 x.p.2 W' x.kv (x.is.later_ h)
    have HC:=Lib.hid hcal
    clear hcal vX
    have hd1:=V.deep_lt x.v
    have hd2:=x.p.2
    have e1:IntKind.i64.wrap ((x.v.deep:Int)+1)=(x.v.deep:Int)+1:=IntWalk.i64_in _ (by omega)
    gi_wp2
    gi_region_with_o (refine ⟨trivial, ?_⟩;gi_at_call 93;refine (CallsIn.inRound l (callsIn_wide.2 (HC.out _ hB1.drew))).mono ?_;rintro e w' ⟨rfl,hb⟩;have cS':=(hb.cell (p:=⟨w.heap.size+1,0,none⟩) (by exact bS1.lt)).trans cS;have fS':=(hb.frozen (p:=⟨w.heap.size+1,0,none⟩) (by exact bS1.lt)).trans fS)
    all_goals gi_wp2
    all_goals
      have hb':=(Below.refl W.heap.size W).drew.trans hb
      have hbx':Boxed w' (w.heap.size+1) 3 _:=(hb'.block _ bS1.lt).trans bS1
      exact ⟨((keepsOthers_below hb').trans (KeepsOthers.setCell _ _ _)).from _,(KeepAt.of_below hb' (by omega) (by omega)).trans (KeepAt.setCell _ _ (by simp) (by simp)),by first|(rw [num_eq (show ((deepO ((pre++ [x]).map Kid.pair):Nat):Int)=((deepO (pre.map Kid.pair):Nat):Int) from by rw [kids_deep];omega)];exact hbx'.set _)|(rw [num_eq (show ((deepO ((pre++ [x]).map Kid.pair):Nat):Int)=(x.v.deep:Int)+1 from by rw [kids_deep];omega)];exact hbx'.set _),(hB1.on hb' hB1.size).setCell (by simp) _,by have:=hb'.size;simp [World.setCell];omega⟩
  case done=>
    rintro D ys W hD rfl ⟨bS,hB,hz1⟩ hK
    have cS:=bS.cell
    gi_wp2
    refine ⟨by simp, .inl ⟨_,_,rfl,run_takeDeferred hK, ?_⟩⟩
    refine ⟨_,results_tmp (t:=2) rfl _ _ _, ?_,hB.trans ((Below.refl _ _).grown (grownBy_putObj' _ D _) hB.size (fun k e=>by cases e;omega))⟩
    show Ending.returned (.int .i64 ((deepO (pairs l o):Nat):Int))=_
    exact ret_int (by simp only [pairs_deep,V.deep])
  case stop=>
    rintro D c' pre W _ _ h _
    exact h.elim
end Go.Proofs.YthceefjafklcmaaGreatDoor
namespace Go.Proofs.YthceefjafklcmaaGreatDoor
open Go.RowKit
def outs (l:List UInt8):List Value:=l.map fun b=>Value.int .u8 (b.toNat:Int)
theorem outs_append (a b:List UInt8):outs (a++b)=outs a++outs b:=by simp [outs]
theorem outs_length (a:List UInt8):(outs a).length=a.length:=by simp [outs]
def be (n:Nat):Nat→List UInt8
  |0=> []
  |r+1=>UInt8.ofNat (n / 256 ^ r)::be n r
theorem be_length (n r:Nat):(be n r).length=r:=by
  induction r with
  |zero=>rfl
  |succ r ih=>simp [be,ih]
structure Wr (w:World) (B wb:Nat) (v:Value) (bs:List UInt8):Prop where
  cell:w.cell? ⟨wb,0,none⟩=some v
  frz:w.frozen? ⟨wb,0,none⟩=false
  own:w.ownsRow B 5 1 v bs.length (outs bs)
  ne:v.ownBlock≠some wb
  base:B≤wb
structure WStep (w w':World) (wb:Nat) (v v':Value):Prop where
  os:w'.os=w.os
  tape:w'.tape=w.tape
  output:w'.output=w.output
  size:w.heap.size≤w'.heap.size
  block:∀k,k<w.heap.size→k≠wb→some k≠v.ownBlock→w'.heap[k]? =w.heap[k]?
  own:v'.ownBlock=v.ownBlock∨∀k,v'.ownBlock=some k→w.heap.size≤k
theorem WStep.refl (w:World) (wb:Nat) (v:Value):WStep w w wb v v:=⟨rfl,rfl,rfl,Nat.le_refl _,fun _ _ _ _=>rfl, .inl rfl⟩
theorem WStep.trans {w w1 w2:World} {wb:Nat} {v v1 v2:Value} (h:WStep w w1 wb v v1) (g:WStep w1 w2 wb v1 v2):WStep w w2 wb v v2:=by
  refine ⟨g.os.trans h.os,g.tape.trans h.tape,g.output.trans h.output,Nat.le_trans h.size g.size,fun k hk hw hv=> ?_, ?_⟩
  · refine (g.block k (Nat.lt_of_lt_of_le hk h.size) hw (fun e=> ?_)).trans (h.block k hk hw hv)
    rcases h.own with o|o
    · exact hv (e.trans o)
    · have:=o k e.symm;omega
  · rcases g.own with o|o
    · rw [o];exact h.own
    · exact .inr fun k hk=>Nat.le_trans h.size (o k hk)
theorem WStep.of_below {w w':World} (wb:Nat) (v:Value) (h:Below w.heap.size w w'):WStep w w' wb v v:=
  ⟨h.os,h.tape,h.output,h.size,fun k hk _ _=>h.block k hk, .inl rfl⟩
theorem WStep.below {w w':World} {wb B:Nat} {v v':Value} (h:WStep w w' wb v v') (h1:B≤wb) (h2:∀k,v.ownBlock=some k→B≤k) (hB:B≤w.heap.size):Below B w w':=
  ⟨h.os,h.tape,h.output,h.size,fun k hk=>h.block k (by omega) (by omega) (fun e=>by have:=h2 k e.symm;omega)⟩
theorem Wr.lo {w:World} {B wb:Nat} {v:Value} {bs:List UInt8} (h:Wr w B wb v bs):∀k,v.ownBlock=some k→B≤k∧k<w.heap.size:=h.own.lt
theorem Wr.lt {w:World} {B wb:Nat} {v:Value} {bs:List UInt8} (h:Wr w B wb v bs):wb<w.heap.size:=World.block_lt_of_cell? w _ h.cell
theorem Wr.keeps {w w':World} {B wb:Nat} {v v':Value} {bs:List UInt8} (h:Wr w B wb v bs) (s:WStep w w' wb v v'):Below B w w':=s.below h.base (fun k hk=>(h.lo k hk).1) (Nat.le_trans h.base (Nat.le_of_lt h.lt))
theorem WStep.far {w w':World} {wb:Nat} {v v':Value} (h:WStep w w' wb v v') {b o:Nat} {u:Value} (hc:w.cell? ⟨b,o,none⟩=some u) (hw:b≠wb) (hv:v.ownBlock≠some b):w'.cell? ⟨b,o,none⟩=some u:=
  (World.cell?_of_block (h.block b (World.block_lt_of_cell? w _ hc) hw (fun e=>hv e.symm))).trans hc
theorem Wr.of_below {w w':World} {B wb:Nat} {v:Value} {bs:List UInt8} (h:Wr w B wb v bs) (hb:Below w.heap.size w w'):Wr w' B wb v bs:=
  ⟨keep_cell hb h.cell h.lt,(hb.frozen h.lt).trans h.frz,h.own.kept (row:=none) ⟨hb.os,hb.tape,hb.output,hb.size,fun k hk _=>hb.block k hk⟩ (by cases v.ownBlock<;>simp),h.ne,h.base⟩
theorem Wr.push {w w0 w1:World} {B wb:Nat} {u v':Value} {bs bs':List UInt8} (h:Wr w B wb u bs) (hw0:Below w.heap.size w w0) (hg:w0.grownBy w1 u.ownBlock)
    (hown:w1.ownsRow B 5 1 v' bs'.length (outs bs')) (hat:v'.ownBlock=u.ownBlock∨∀k,v'.ownBlock=some k→w.heap.size≤k):
    Wr (w1.setCell ⟨wb,0,none⟩ v') B wb v' bs'∧WStep w (w1.setCell ⟨wb,0,none⟩ v') wb u v':=by
  have hlt:=h.lt
  have h1:wb<w0.heap.size:=Nat.lt_of_lt_of_le hlt hw0.size
  have hc1:w1.cell? ⟨wb,0,none⟩=some u:=(hg.cell_far ⟨wb,0,none⟩ h1 (Ne.symm h.ne)).trans (keep_cell hw0 h.cell hlt)
  have hf1:w1.frozen? ⟨wb,0,none⟩=false:=(hg.frozen_far ⟨wb,0,none⟩ h1 (Ne.symm h.ne)).trans ((hw0.frozen (p:=⟨wb,0,none⟩) hlt).trans h.frz)
  have hne:v'.ownBlock≠some wb:=by
    rcases hat with e|e
    · rw [e];exact h.ne
    · intro e2;have:=e _ e2;omega
  refine ⟨⟨World.cell?_setCell_same _ _ _ hc1,by simpa using hf1, ?_,hne,h.base⟩,⟨?_, ?_, ?_, ?_,fun k hk hkw hkv=> ?_,hat⟩⟩
  · exact ownsRow_setCell_other hown (a:=⟨wb,0,none⟩) hne v'
  · exact hg.os.trans hw0.os
  · exact hg.tape.trans hw0.tape
  · exact hg.output.trans hw0.output
  · rw [World.size_setCell];exact Nat.le_trans hw0.size hg.size
  · rw [heap_setCell_other _ _ _ _ hkw,hg.block k (Nat.lt_of_lt_of_le hk hw0.size) hkv,hw0.block k hk]
theorem outs_snoc (l:List UInt8) (b:UInt8):outs l++ [Value.int .u8 (b.toNat:Int)] =outs (l++ [b]):=by simp [outs]
theorem ginfo8:(Tryz.prog.info? 5).map (fun i=>(i.zero,i.size,i.bytes))=some (some (.int .u8 0),1,1):=by kernel_rfl
theorem shr_nat (U r:Nat):(U:Int) / 2 ^ (8*(r:Int)).toNat=((U / 256 ^ r:Nat):Int):=by
  have e1:(8*(r:Int)).toNat=8*r:=by omega
  have e2:(2:Int) ^ (8*r)=((256 ^ r:Nat):Int):=by rw [Int.pow_mul];simp
  rw [e1,e2, ←Int.natCast_ediv]
theorem byte_u8 (n:Nat):IntKind.u8.wrap (n:Int)=((UInt8.ofNat n).toNat:Int):=by
  simp [IntKind.wrap,IntKind.bits,IntKind.signed]
theorem u64_mod (x:Int):IntKind.u64.wrap x=(((x % 18446744073709551616).toNat:Nat):Int):=by
  have:=Int.emod_nonneg x (show (18446744073709551616:Int)≠0 by decide)
  simp [IntKind.wrap,IntKind.bits,IntKind.signed]
  omega
end Go.Proofs.YthceefjafklcmaaGreatDoor
