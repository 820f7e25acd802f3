/-
  Contracts of the functions that the law reaches: msg.lay: a number is laid behind bytes..
-/
import Derived.Test.YtfoahkbnheijcaaGreatDoorMa17
import Derived.Stop.Asserts
import Derived.Deep.Slices
import Derived.Lib.SmallJoins
import Derived.SizedLaws
import Derived.ProofKit
import Derived.OpenShut
namespace Go.Proofs.YtfoahkbnheijcaaGreatDoor
open Go.RowKit
set_option maxHeartbeats 4000000
theorem zml {w:World} {B:Nat} {v:Value} {bs:List UInt8} (ho:w.ownsRow B 5 1 v bs.length (outs bs)):∃a n c,v= .slice a n c/\IsB w w.heap.size a n c bs:=by
 have hc:=fun g hg=>ho.cells (g:=g) hg
 have hlt:=ho.lt
 rcases ho.2 with ⟨rfl,hn⟩|⟨g,cap,cur,rfl,_,hg,hnc,hcm,_,_⟩
 .have:bs= [] :=List.length_eq_zero_iff.1 hn
  subst this
  exact ⟨none,0,0,rfl, .nil _ _⟩
 .refine ⟨_,_,_,rfl,rfl,hnc,by simpa [maxLen] using hcm,g,0,fun _=>⟨rfl,(hlt g rfl).2⟩,fun i hi=> ?_⟩
  have:=hc g rfl i (.int .u8 (bs[i].toNat:Int)) (by simp [outs,hi])
  rw [Zs] at this;exact this
def OwnB (w:World) (B:Nat) (a:Option Addr) (n c:Nat) (bs:List UInt8):Prop:=n=bs.length/\w.ownsRow B 5 1 (.slice a n c) n (outs bs)
theorem OwnB.nil (w:World) (B:Nat):OwnB w B none 0 0 [] :=⟨rfl,by simp [outs], .inl ⟨rfl,rfl⟩⟩
theorem OwnB.isB {w:World} {B:Nat} {a:Option Addr} {n c:Nat} {bs:List UInt8} (h:OwnB w B a n c bs):IsB w w.heap.size a n c bs:=by
 obtain ⟨rfl,h⟩:=h
 obtain ⟨a2,n2,c2,hv2,hI⟩:=zml h
 injection hv2 with h3 h4 h5;subst h3 h4 h5
 exact hI
theorem OwnB.below {w w':World} {B:Nat} {a:Option Addr} {n c:Nat} {bs:List UInt8} (h:OwnB w B a n c bs) (hb:Below w.heap.size w w'):OwnB w' B a n c bs:=
 ⟨h.1,h.2.kept (row:=none) ⟨hb.os,hb.tape,hb.output,hb.size,fun k hk _=>hb.block k hk⟩ (by cases (Value.slice a n c).ownBlock<;>simp)⟩
theorem OwnB.lower {w:World} {B B':Nat} {a:Option Addr} {n c:Nat} {bs:List UInt8} (h:OwnB w B a n c bs) (hB:B'<=B):OwnB w B' a n c bs:=by
 obtain ⟨h1,h2,h3⟩:=h
 refine ⟨h1,h2, ?_⟩
 rcases h3 with h|⟨g,cap,cur,e,hg,r⟩
 .exact .inl h
 .exact .inr ⟨g,cap,cur,e,Nat.le_trans hB hg,r⟩
theorem OwnB.lt {w:World} {B:Nat} {a:Option Addr} {n c:Nat} {bs:List UInt8} (h:OwnB w B a n c bs):∀b,(Value.slice a n c).ownBlock=some b->B<=b/\b<w.heap.size:=h.2.lt
set_option maxRecDepth 100000 in
theorem Jt (x width:Nat) (hw8:width<=8) (w:World) (B:Nat) (hB:B<=w.heap.size) (a0:Option Addr) (n0 c0:Nat) (bs:List UInt8) (h:OwnB w B a0 n0 c0 bs) (hsz:bs.length+width<=140737488355328):
 Calls Tryz.prog 43 #[.slice a0 n0 c0, .int .i64 x, .int .i64 width] w fun e w'=>(∃a n c,e= .returned (.slice a n c)/\OwnB w' B a n c (bs++be x width))/\Below B w w':=by
 obtain ⟨i0,hi0,hz0,hz1,hz2⟩:=info_parts Yj
 go_enter Tryz.func43,Tryz.ntmps43
 go_wp2_with fail
 go_loopw [0,7] (fun u i wr=>∃(r:Nat) (pre:List UInt8) (a:Option Addr) (n c:Nat),r<=width/\i= .int .i64 ((r:Int) - 1)/\u= .slice a n c/\Hid (pre++be x r=be x width)/\OwnB wr B a n c (bs++pre)/\Below B w wr) (fun _ i _=>(intOf i+1).toNat)
 case atStart=>exact ⟨width, [],a0,n0,c0,Nat.le_refl _,rfl,rfl,by show _=_;rfl,by simpa using h,Below.refl _ _⟩
 case round=>
  clear h
  obtain ⟨r,pre,a,n,c,hr,rfl,rfl,HP,h,hb⟩:=hrel
  cases r with
  | zero=>
    go_wp2_with fail
    go_returns
    exact ⟨⟨a,n,c,rfl,by rw [<-HP.out,show be x 0= [] from rfl,List.append_nil];exact h⟩,hb⟩
  | succ r=>
    have hpl:pre.length+(r+1)=width:=by have:=congrArg List.length HP.out;simpa [Zc] using this
    have ei:((r+1:Nat):Int) - 1=(r:Int):=by omega
    rw [ei]
    obtain ⟨b,hbb⟩:∃b:UInt8,UInt8.ofNat (x / 256 ^ r)=b:=⟨_,rfl⟩
    have hu8:(x:Int) / 2 ^ (8*r) % 256=((b.toNat:Nat):Int):=by
     have h1:=Q4 x r
     rw [show (8*(r:Int)).toNat=8*r by omega] at h1
     rw [h1, <-hbb]
     simp
    have HB:=qh hbb
    have hrlt:=h.lt
    have hbs:=hb.size
    have hn:=h.1
    rw [List.length_append] at hn
    have HN:=qh hn
    have ho:=h.2
    have HH:=qh h
    have HBB:=qh hb
    clear hbb h hb hn
    go_wp2_with (at_builtin;refine wpList_append_lies _ rfl (.tmp 14) (.tmp 20) 34 (by rfl) B 5 i0 _ 1 1 Tryz.underlying34 hi0 hz0 hz1 hz2 rfl (by omega) (.slice a n c) n (outs (bs++pre)) (by rfl) (ho.alloc _) ⟨wr.heap.size,0,none⟩ 1 1 [.int .u8 (b.toNat:Int)] (by rfl) (by rfl) (World.news_of_block (cs:= #[.int .u8 (b.toNat:Int)]) (t:=5) (fr:=(0,0)) (heap_alloc_new wr _)) (by simp [Value.oneCell']) (by omega) (by have:=HN.out;unfold maxLen;omega) (by have:=HN.out;omega) (by simp;omega) (wr.heap.size+1) (by simp) ?_;intro g cap w7 hown7 hgrow7 hat7 hlt7)
    go_roundw
    case rel=>
     refine ⟨r,pre++ [b],some ⟨g,0,none⟩,n+1,cap,by omega,by go_num,rfl,by show _=_;rw [<-HP.out,List.append_assoc];simp only [be,HB.out,List.singleton_append],⟨by rw [<-List.append_assoc,List.length_append,List.length_append,HN.out];rfl, ?_⟩, ?_⟩
     .rw [<-List.append_assoc,J4]
      exact hown7
     .exact (HBB.out.trans (((Below.refl _ _).alloc (Nat.le_refl _) _).mono (by omega))).trans (Zi hgrow7 (fun k hk=>(hrlt k hk).1) (by simp;omega))
    case measure=>first|(simp [intOf];done)|(simp [intOf];omega)
theorem ze4 (x:Nat) (w:World) (B:Nat) (hB:B<=w.heap.size) (a0:Option Addr) (n0 c0:Nat) (bs:List UInt8) (h:OwnB w B a0 n0 c0 bs) (hsz:bs.length+1<=140737488355328):
 Calls Tryz.prog 43 #[.slice a0 n0 c0, .int .i64 x, .int .i64 1] w fun e w'=>(∃a n c,e= .returned (.slice a n c)/\OwnB w' B a n c (bs++be x 1))/\Below B w w':=Jt x 1 (by omega) w B hB a0 n0 c0 bs h hsz
theorem zib (x:Nat) (w:World) (B:Nat) (hB:B<=w.heap.size) (a0:Option Addr) (n0 c0:Nat) (bs:List UInt8) (h:OwnB w B a0 n0 c0 bs) (hsz:bs.length+2<=140737488355328):
 Calls Tryz.prog 43 #[.slice a0 n0 c0, .int .i64 x, .int .i64 2] w fun e w'=>(∃a n c,e= .returned (.slice a n c)/\OwnB w' B a n c (bs++be x 2))/\Below B w w':=Jt x 2 (by omega) w B hB a0 n0 c0 bs h hsz
theorem Kc (x:Nat) (w:World) (B:Nat) (hB:B<=w.heap.size) (a0:Option Addr) (n0 c0:Nat) (bs:List UInt8) (h:OwnB w B a0 n0 c0 bs) (hsz:bs.length+4<=140737488355328):
 Calls Tryz.prog 43 #[.slice a0 n0 c0, .int .i64 x, .int .i64 4] w fun e w'=>(∃a n c,e= .returned (.slice a n c)/\OwnB w' B a n c (bs++be x 4))/\Below B w w':=Jt x 4 (by omega) w B hB a0 n0 c0 bs h hsz
theorem zja {bs r:List UInt8} {s:St} (h:rdS bs=some (s,r)):(encSt s).length+r.length=bs.length:=by
 rw [rdS,Option.bind_eq_some_iff] at h
 obtain ⟨p,hp,h⟩:=h
 have h1:=Yt hp
 by_cases e:p.1=1
 .rw [if_pos e,Option.bind_eq_some_iff] at h
  obtain ⟨q,hq,h⟩:=h
  have h2:=Yt hq
  injection h with h;injection h with ha hb;subst ha hb
  rw [encSt,if_pos rfl,List.length_append,Zc,Zc]
  omega
 .rw [if_neg e,Option.bind_eq_some_iff] at h
  obtain ⟨q,hq,h⟩:=h
  have h2:=Q7 hq
  injection h with h;injection h with ha hb;subst ha hb
  rw [encSt,if_neg (by simp),List.length_append,Zc]
  dsimp only
  omega
theorem zbe {bs r:List UInt8} {i:Int} (h:rdI bs=some (i,r)):(be (i % 18446744073709551616).toNat 8).length+r.length=bs.length:=by
 rw [rdI,Option.bind_eq_some_iff] at h
 obtain ⟨q,hq,h⟩:=h
 have h2:=Yt hq
 injection h with h;injection h with ha hb;subst hb
 rw [Zc];omega
theorem Qb {α:Type} {b:Bool} {z x:α} {f:List UInt8->Option (α×List UInt8)} {bs r:List UInt8} (enc:α->List UInt8) (hf:∀bs x r,f bs=some (x,r)->(enc x).length+r.length=bs.length) (h:rdIf b z f bs=some (x,r)):
 (if b=true then enc x else []).length+r.length=bs.length:=by
 rw [rdIf] at h
 by_cases e:b=true
 .rw [if_pos e] at h;rw [if_pos e];exact hf _ _ _ h
 .rw [if_neg e] at h;rw [if_neg e]
  injection h with h;injection h with ha hb;subst hb
  simp
theorem zhd {b:Bool} {x:V} {bs r:List UInt8} (h:rdIf b V.none (rdV 18) bs=some (x,r)):x.weight<=bs.length+1:=by
 rw [rdIf] at h
 by_cases e:b=true
 .rw [if_pos e] at h
  have:=J6 18 _ _ _ h
  omega
 .rw [if_neg e] at h
  injection h with h;injection h with ha hb;subst ha
  simp [V.none,V.weight,weightL,weightO]
theorem zip {bs r:List UInt8} {c:Cm} (h:rdC bs=some (c,r)):(encC c).length+r.length=bs.length/\c.v.weight<=bs.length+1:=by
 rw [rdC] at h
 simp only [Option.bind_eq_some_iff] at h
 obtain ⟨p,hp,n,hn,q,hq,k,hk,i,hi,j,hj,m,hm,v,hv,s,hs,he⟩:=h
 have h1:=Yt hp
 have h2:=Jq hn
 have h3:=(zbf (f:=rdS) encP (fun _=>0) rfl rfl (fun xs x bs r hx _=>by
  have:=zja hx
  rw [zay,List.length_append]
  simp only [encP,List.append_nil]
  omega) _ _ _ _ hq).1
 have h4:=Qb encS (fun _ _ _ g=>Q7 g) hk
 have h5:=Qb (fun i:Int=>be (i % 18446744073709551616).toNat 8) (fun _ _ _ g=>zbe g) hi
 have h6:=Qb (fun i:Int=>be (i % 18446744073709551616).toNat 8) (fun _ _ _ g=>zbe g) hj
 have h7:=Qb (fun i:Int=>be (i % 18446744073709551616).toNat 8) (fun _ _ _ g=>zbe g) hm
 have h8:=Qb encV (fun _ _ _ g=>(J6 18 _ _ _ g).1) hv
 have h9:=Qb encS (fun _ _ _ g=>Q7 g) hs
 have h10:=zhd hv
 injection he with he;injection he with ha hb;subst ha hb
 refine ⟨?_,by dsimp only;omega⟩
 rw [encC,encT]
 simp only [List.length_append,Zc]
 omega
theorem zhn {n:Nat} {bs r:List UInt8} {l:List Cm} (h:rdL rdC n bs=some (l,r)):(encCs l).length+r.length=bs.length/\∀x ∈ l,x.v.weight<=bs.length+1:=by
 induction n generalizing bs l r with
 | zero=>
   rw [rdL] at h
   injection h with h;injection h with ha hb;subst ha hb
   exact ⟨by simp [encCs],by simp⟩
 | succ n ih=>
   rw [rdL] at h
   simp only [Option.bind_eq_some_iff] at h
   obtain ⟨p,hp,q,hq,he⟩:=h
   obtain ⟨a,b⟩:=ih hp
   obtain ⟨c,d⟩:=zip hq
   injection he with he;injection he with ha hb;subst ha hb
   refine ⟨?_,fun x hx=> ?_⟩
   .rw [zao,List.length_append]
    simp only [encCs,List.append_nil]
    omega
   .rcases List.mem_append.mp hx with hx|hx
    .exact b x hx
    .rw [List.mem_singleton] at hx;subst hx;omega
theorem zg7 {bs r:List UInt8} {e:En} (h:rdE bs=some (e,r)):(encE e).length+r.length=bs.length/\e.v.weight<=bs.length+1/\∀x ∈ e.op,x.v.weight<=bs.length+1:=by
 have hw:V.none.weight=1:=by simp [V.none,V.weight,weightL,weightO]
 rw [rdE] at h
 simp only [Option.bind_eq_some_iff] at h
 obtain ⟨p,hp,s,hs,q,hq,h⟩:=h
 have h1:=Yt hp
 have h2:=Yt hs
 have h3:=Yt hq
 by_cases e1:p.1=1
 .rw [if_pos e1,Option.bind_eq_some_iff] at h
  obtain ⟨v,hv,he⟩:=h
  have h4:=J6 18 _ _ _ hv
  injection he with he;injection he with ha hb;subst ha hb
  refine ⟨?_,by dsimp only;omega,by simp⟩
  have e1':(p.1:Int)=1:=by omega
  simp only [encE,if_pos e1',List.length_append,Zc]
  omega
 .rw [if_neg e1] at h
  have e1':¬(p.1:Int)=1:=by omega
  by_cases e2:p.1=2
  .rw [if_pos e2,Option.bind_eq_some_iff] at h
   obtain ⟨n,hn,h⟩:=h
   rw [Option.bind_eq_some_iff] at h
   obtain ⟨l,hl,he⟩:=h
   have h4:=Jq hn
   obtain ⟨h5,h6⟩:=zhn hl
   injection he with he;injection he with ha hb;subst ha hb
   have e2':(p.1:Int)=2:=by omega
   refine ⟨?_,by dsimp only;omega,fun x hx=>by have:=h6 x hx;omega⟩
   simp only [encE,if_neg e1',if_pos e2',List.length_append,Zc]
   omega
  .rw [if_neg e2] at h
   have e2':¬(p.1:Int)=2:=by omega
   injection h with he;injection he with ha hb;subst ha hb
   refine ⟨?_,by dsimp only;omega,by simp⟩
   simp only [encE,if_neg e1',if_neg e2',List.length_append,Zc,List.length_nil]
   omega
def ez:List Value:= [.int .u8 0, .int .u32 0, .int .u32 0, .int .u8 0, .int .i64 0, .string { data:= #[] }, .slice none 0 0, .slice none 0 0, .slice none 0 0]
def En.none:En:=⟨0,0,0,V.none, []⟩
theorem Xq (w:World) (B:Nat):IsEntry w B En.none ezero:=
 .mk ezero V.none [] ⟨by decide,by decide,by decide,by decide,by decide,by decide⟩ (Zo _ _) (IsComps.nil _ _)
theorem zph {P:Program} (w:World) (base:Nat) (t ty e:TypeId) (i:TypeInfo) (size:Nat) (ht:P.underlying t=some (.slice e)) (hi:P.info? e=some i)
 (v:Value) (n:Nat) (xs:List Value) (hown:w.ownsRow base e size v n xs) (a1:Option Addr) (c1:Nat):
 (Builtin.append_ #[t,t] ty #[v, .slice a1 0 c1]).run P w= .ok v w:=by
 rcases hown.2 with ⟨rfl,rfl⟩|⟨g,cap,cur,rfl,hbg,hg,hnc,hcm,hcs,htake⟩
 .cases a1<;>simp [Builtin.append_,run_underlying ht,sizeOf,typeInfo,hi,Builtin.lenOf,Builtin.firstCells,loadCells,loadCellsFrom]
 .cases a1<;>simp [Builtin.append_,run_underlying ht,sizeOf,typeInfo,hi,Builtin.lenOf,Builtin.firstCells,storeCells,hnc,loadCells,loadCellsFrom]
theorem zah {ops:Array Oper} {rest:List Oper} {o:Oper} {a:Act} {Q:Exit->Act->World->Prop} {w:World} (hgd:o.guard=none) (s x:Operand)
 (ho:o.op= .call { callee:= .builtin .append,args:= #[s,x],argTypes:= #[34,34] }) (B B':Nat) (a0:Option Addr) (n0 c0:Nat) (bs:List UInt8) (a1:Option Addr) (n1 c1:Nat) (cs:List UInt8)
 (hs:a.eval s= .slice a0 n0 c0) (hx:a.eval x= .slice a1 n1 c1) (h0:OwnB w B a0 n0 c0 bs) (h1:IsB w B' a1 n1 c1 cs) (hB:B<=w.heap.size) (hsz:bs.length+cs.length<=140737488355328)
 (h:∀a' n' c' w',OwnB w' B a' n' c' (bs++cs)->Below B w w'->wpList Tryz.prog ops Q rest (a.put o.dst (.slice a' n' c')) w'):wpList Tryz.prog ops Q (o::rest) a w:=by
 obtain ⟨i0,hi0,hz0,hz1,hz2⟩:=info_parts Yj
 obtain ⟨e0,g0⟩:=h0
 obtain ⟨k1,k2,k3,b,q,k4,k5⟩:=h1
 have hlt:=g0.lt
 by_cases hn:n1=0
 .subst hn
  have:cs= [] :=List.length_eq_zero_iff.1 k1.symm
  subst this
  refine wpList_plain hgd fun _ hK=> ?_
  have hr:=zph (P:=Tryz.prog) w B 34 o.type 5 i0 1 Tryz.underlying34 hi0 _ n0 _ g0 a1 c1
  unfold Oper.wp execOp
  simp only [ho,resolve,invoke,builtin,Sem.run_bind,Sem.run_pure,Result.andThen_ok,List.map_toArray,List.map_cons,List.map_nil,hs,hx,hr]
  exact hK _ _ (h a0 n0 c0 w ⟨by simp [e0],by simpa using g0⟩ (Below.refl _ _))
 .obtain ⟨rfl,hb⟩:=k4 (by omega)
  refine wpList_append_own w hgd s x _ ho B 5 i0 _ 1 1 Tryz.underlying34 hi0 hz0 hz1 hz2 rfl (by omega) _ n0 _ hs g0 ⟨b,q,none⟩ n1 c1 (outs cs) hx (by rw [zc6,k1];omega) (fun j u hj=> ?_) (fun u hu=> ?_) (by unfold maxLen;omega) (by omega) hB fun v' w' h2 h3 h4=> ?_
  .rw [Zs]
   have hj2:j<cs.length:=by have:=(List.getElem?_eq_some_iff.1 hj).1;rwa [zc6] at this
   have:=k5 j hj2
   simp [outs,hj2] at hj
   rw [this,hj]
  .simp [outs] at hu
   obtain ⟨_,_,rfl⟩:=hu
   rfl
  .rcases h2.2 with ⟨rfl,hq⟩|⟨g,cap,cur,rfl,_⟩
   .exfalso;omega
   .exact h _ _ _ _ ⟨by simp [e0,k1],by rw [J4];exact h2⟩ (Zi h3 (fun k hk=>(hlt k hk).1) hB)
theorem zm3 {ops:Array Oper} {rest:List Oper} {o:Oper} {a:Act} {Q:Exit->Act->World->Prop} {w:World} (hgd:o.guard=none) (s x:Operand)
 (ho:o.op= .call { callee:= .builtin .append,args:= #[s,x],argTypes:= #[34,9] }) (B:Nat) (a0:Option Addr) (n0 c0:Nat) (bs:List UInt8) (t:ByteArray)
 (hs:a.eval s= .slice a0 n0 c0) (hx:a.eval x= .string t) (h0:OwnB w B a0 n0 c0 bs) (hB:B<=w.heap.size) (hsz:bs.length+t.size<=140737488355328)
 (h:∀a' n' c' w',OwnB w' B a' n' c' (bs++t.data.toList)->Below B w w'->wpList Tryz.prog ops Q rest (a.put o.dst (.slice a' n' c')) w'):wpList Tryz.prog ops Q (o::rest) a w:=by
 obtain ⟨i0,hi0,hz0,hz1,hz2⟩:=info_parts Yj
 obtain ⟨e0,g0⟩:=h0
 have hlt:=g0.lt
 have ht:t.data.toList.length=t.size:=Array.length_toList
 refine Lib.wpList_append_own_string w hgd s x _ _ ho B 5 i0 Tryz.underlying34 Tryz.underlying9 hi0 hz0 hz1 hz2 _ n0 _ hs g0 t hx (by unfold maxLen;omega) (by omega) hB fun v' w' h2 h3 h4=> ?_
 obtain ⟨ao,c,rfl⟩:=zbr h2
 rw [zbj] at h2
 exact h _ _ _ _ ⟨by rw [List.length_append,ht,e0],h2⟩ (Zi h3 (fun k hk=>(hlt k hk).1) hB)
theorem zk1 (sd:Bool) (w:World) (c:EC) (x:En) (hx:IsEntry w w.heap.size x c) (HS:Hid (∀W,Below w.heap.size w W->Calls Tryz.prog 89 #[.agg #[.int .u8 c.k, .int .u32 c.src, .int .u32 c.seq, .int .u8 c.v.k, .int .i64 c.v.n, .string c.v.s, .slice c.v.la c.v.ll c.v.lc, .slice c.v.oa c.v.ol c.v.oc, .slice c.oa c.ol c.oc]] W fun e w'=>e= .returned (.bool sd)/\Below W.heap.size W w')) (hsz:(encE x).length<=70368744177664):
 Calls Tryz.prog 92 #[.agg #[.int .u8 c.k, .int .u32 c.src, .int .u32 c.seq, .int .u8 c.v.k, .int .i64 c.v.n, .string c.v.s, .slice c.v.la c.v.ll c.v.lc, .slice c.v.oa c.v.ol c.v.oc, .slice c.oa c.ol c.oc]] w fun e w'=>(∃a n cc,e= .returned (.tuple #[.slice a n cc, .int .u16 (outN sd (encE x))])/\IsB w' w'.heap.size a n cc (outB sd (encE x)))/\Below w.heap.size w w':=by
 cases hx with
 | mk c v l hb hv ho=>
   obtain ⟨k,src,seq,⟨vk,vn,vs,vla,vll,vlc,voa,vol,voc⟩,oa,ol,oc⟩:=c
   exact zlo sd w k src seq vk vn vs vla vll vlc voa vol voc oa ol oc v l hb.k0 hb.k1 hv ho HS (fun _=>hsz)
end Go.Proofs.YtfoahkbnheijcaaGreatDoor
namespace Go.Proofs.YtfoahkbnheijcaaGreatDoor
open Go.ChangeShapes Go.WideShapes Go.ChangeAt Go.RowKit Go.Lib Go.Deep
instance:Inhabited Tk:=⟨⟨0,0, .empty,0⟩⟩
end Go.Proofs.YtfoahkbnheijcaaGreatDoor
