/-
  Contracts of the functions that the law reaches: What Raw builds weighs little enough.
-/
import Derived.Test.YtnjgbiachcfigaaGreatDoorIw20
import Derived.Test.YtnjgbiachcfigaaGreatDoorIw34
namespace Go.Proofs.YtnjgbiachcfigaaGreatDoor
open Go.RowKit
structure RawW (v:V) (u:Nat):Prop where
 str:v.str.size<=140737488355328
 wt:u≠0->v.weight+140737488355328<=281474976710657*u
 low:u=0->v=V.none
theorem zjg {f:List Tk->V×Nat} (hf:∀l,(∀t ∈ l,t.s.size<=140737488355328)->RawW (f l).1 (f l).2) (l:List Tk) (hl:∀t ∈ l,t.s.size<=140737488355328):∀j,1<=(fR f l j).2.1/\weightL (fR f l j).1+281474976710657<=281474976710657*(fR f l j).2.1/\weightO ((fR f l j).1.map fun x=>(x.str,x))+281474976710657<=281474976710657*(fR f l j).2.1:=by
 intro j
 induction j with
 |zero=>simp [fR,weightL,weightO]
 | succ j ih=>
   rw [fR]
   split
   .exact ih
   .split
    .exact ih
    .rename_i h1 h2
     have hb:=hf (l.drop (fR f l j).2.1) (fun t ht=>hl t (List.mem_of_mem_drop ht))
     have hs:=hb.str
     have hw:=hb.wt h2
     obtain ⟨a,b,c⟩:=ih
     dsimp only
     rw [Xt,List.map_append,Y5]
     simp only [weightL,List.map_cons,List.map_nil,weightO,Yl]
     refine ⟨by omega, ?_, ?_⟩<;>(rw [Nat.mul_add];omega)
theorem zf2 (d:Nat):∀l,(∀t ∈ l,t.s.size<=140737488355328)->RawW (rawP d l).1 (rawP d l).2:=by
 induction d with
 | zero=>
   intro l hl
   cases l with
   |nil=>exact ⟨by simp [rawP,V.none,V.str],by simp [rawP],fun _=>rfl⟩
   | cons t r=>
     have:=hl t (by simp)
     exact ⟨by simp [rawP,V.str];omega,by simp [rawP,V.weight,weightL,weightO];omega,by simp [rawP]⟩
 | succ d ih=>
   intro l hl
   cases l with
   |nil=>exact ⟨by simp [rawP,V.none,V.str],by simp [rawP],fun _=>rfl⟩
   | cons t r=>
     have ht:=hl t (by simp)
     obtain ⟨K,hk⟩:∃K,(t.m % 4).toNat=K:=⟨_,rfl⟩
     rw [rawP,hk]
     obtain ⟨h1,h2,h3⟩:=zjg ih (t::r) hl K
     obtain ⟨p,hp⟩:∃p,fR (rawP d) (t::r) K=p:=⟨_,rfl⟩
     rw [hp] at h1 h2 h3 ⊢
     dsimp only
     rw [rawV]
     split
     .exact ⟨ht,fun _=>by simp only [V.weight,weightO];omega,fun h=>by omega⟩
     .exact ⟨ht,fun _=>by simp only [V.weight,weightL];omega,fun h=>by omega⟩
theorem zf3 (l:List Tk) (hl:∀t ∈ l,t.s.size<=140737488355328):(rawP 20 (l.take 60)).1.weight<=4611686018427387904:=by
 have h:=zf2 20 (l.take 60) (fun t ht=>hl t (List.mem_of_mem_take ht))
 have hu:=Jc 20 (l.take 60)
 rw [List.length_take] at hu
 by_cases h0:(rawP 20 (l.take 60)).2=0
 .rw [h.low h0];simp [V.none,V.weight,weightL,weightO]
 .have:=h.wt h0
  omega
theorem IsToks.sizes {w:World} {B:Nat} {l:List Tk} {a:Option Addr} {n c:Nat} (h:IsToks w B l a n c):∀t ∈ l,t.s.size<=140737488355328:=by
 obtain ⟨_,_,_,b,o,_,h6⟩:=h
 intro t ht
 obtain ⟨i,hi,rfl⟩:=List.mem_iff_getElem.1 ht
 exact (h6 i hi).2.s1
theorem zcu {w:World} {B:Nat} {x:Ba} {b:BA} (h:IsBare w B x b):x.s=b.s/\(compP x).v.weight<=4611686018427387904:=by
 cases h with
 |mk c p v hb hp hv=>exact ⟨rfl,zf3 v hv.sizes⟩
theorem ziq (s:ByteArray) (k i n:Int):0<=tCheck s k i n/\tCheck s k i n<=60:=by unfold tCheck;repeat' split;all_goals omega
theorem zkj (m:Nat) (k i j:Int):0<=lCheck m k i j/\lCheck m k i j<=60:=by unfold lCheck;repeat' split;all_goals omega
theorem ze7 (v:V) (c:Cm):0<=checkP v c/\checkP v c<=60:=by
 unfold checkP
 split
 .omega
 .cases getP v c.path with
  |none=>dsimp only;omega
  | some x=>
    dsimp only
    unfold kindsP
    have h1:=ziq x.str c.k c.i c.n
    have h2:=zkj x.ls.length c.k c.i c.j
    repeat' split
    all_goals omega
end Go.Proofs.YtnjgbiachcfigaaGreatDoor
