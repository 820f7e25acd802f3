/-
  Contracts of the functions that the law reaches: Steps, components and entries in memory..
-/
import Derived.Test.YtnjgbiachcfigaaGreatDoorIw27
namespace Go.Proofs.YtnjgbiachcfigaaGreatDoor
open Go.RowKit
theorem IsComps.keep {w w':World} {B:Nat} {l:List Cm} {a:Option Addr} {n c:Nat} (h:IsComps w B l a n c) (hb:Below B w w'):IsComps w' B l a n c:=by
 obtain ⟨h1,h2,h3,h4,b,o,f,h5,h6⟩:=h
 exact ⟨h1,h2,h3,h4,b,o,f,h5,fun i hi=>⟨(h6 i hi).1.keep hb (h5 (by omega)).2,(h6 i hi).2.keep hb⟩⟩
theorem IsComps.more {w:World} {B B':Nat} {l:List Cm} {a:Option Addr} {n c:Nat} (h:IsComps w B l a n c) (hB:B<=B'):IsComps w B' l a n c:=by
 obtain ⟨h1,h2,h3,h4,b,o,f,h5,h6⟩:=h
 exact ⟨h1,h2,h3,h4,b,o,f,fun hn=>⟨(h5 hn).1,by have:=(h5 hn).2;omega⟩,fun i hi=>⟨(h6 i hi).1,(h6 i hi).2.more hB⟩⟩
theorem IsComps.later_ {w w':World} {l:List Cm} {a:Option Addr} {n c:Nat} (h:IsComps w w.heap.size l a n c) (hb:Below w.heap.size w w'):IsComps w' w'.heap.size l a n c:=
 (h.keep hb).more hb.size
theorem IsComps.sub {w w':World} {B:Nat} (hs:Shows w w' B) {l:List Cm} {a:Option Addr} {n c:Nat} (h:IsComps w B l a n c):IsComps w' B l a n c:=by
 obtain ⟨h1,h2,h3,h4,b,o,f,h5,h6⟩:=h
 refine ⟨h1,h2,h3,h4,b,o,f,h5,fun i hi=>⟨?_,(h6 i hi).2.sub hs⟩⟩
 have hB:=(h5 (by omega)).2
 have x:=(h6 i hi).1
 exact ⟨hs _ _ _ hB x.c0,hs _ _ _ hB x.c1,hs _ _ _ hB x.c2,hs _ _ _ hB x.c3,hs _ _ _ hB x.c4,hs _ _ _ hB x.c5,x.c6.sub hs hB,hs _ _ _ hB x.c11⟩
end Go.Proofs.YtnjgbiachcfigaaGreatDoor
