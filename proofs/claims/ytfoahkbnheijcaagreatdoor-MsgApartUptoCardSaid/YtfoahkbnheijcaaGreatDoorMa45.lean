/-
  Contracts of the functions that the law reaches: The message that.
-/
import Derived.Test.YtfoahkbnheijcaaGreatDoorMa44
namespace Go.Proofs.YtfoahkbnheijcaaGreatDoor
open Go.RowKit
set_option maxHeartbeats 16000000
theorem zad {w W:World} {x:Rc} {c:RC} (h:IsRec w w.heap.size x c) (hW:Below w.heap.size w W):IsRec W W.heap.size x c:=by
 cases h with
 |mk _ v o a hbd hv ho ha=>exact .mk _ v o a hbd (hv.later_ hW) (by
       obtain ⟨h1,h2,h3,b,q,f,h5,h6⟩:=ho.keep hW
       exact ⟨h1,h2,h3,b,q,f,fun hn=>⟨(h5 hn).1,Nat.lt_of_lt_of_le (h5 hn).2 hW.size⟩,fun i hi=>⟨(h6 i hi).1,by
        have h7:=(h6 i hi).2
        revert h7
        generalize o[i] =ob
        generalize f i=fb
        intro h7
        cases h7 with
        |mk _ p v hb hp hv=>exact .mk _ p v hb (hp.more hW.size) (hv.more hW.size)⟩⟩) (ha.later_ hW)
theorem zn6 (l:List Ac):asum l<=hv6 l:=by
 induction l with
 |nil=>simp [asum,hv6]
 | cons a r ih=>
   have h:tsum a.v<=hvT a.v:=by
    generalize a.v=l
    induction l with
    |nil=>simp [tsum,hvT]
    |cons t r ih=>unfold tsum hvT at*;simp only [List.map_cons,List.sum_cons];omega
   unfold asum hv6 at*
   simp only [List.map_cons,List.sum_cons,hvA];omega
theorem zmx (x:Rc) (h:hv10 x<=3000):asum x.acts<=3000:=by
 have:=zn6 x.acts
 unfold hv10 at h
 omega
structure Mr where
 k:Int
 doc:ByteArray
 n:Int
 e:Rc
 src:Int
 seq:Int
 err:Int
 there:Bool
 v:List Tk
 f:List ByteArray
def docP (d:ByteArray):ByteArray:=⟨#[100]⟩++d.extract 0 (min d.size 19)
def fldA (n:Nat):List ByteArray:= [⟨#[97]⟩,⟨#[98]⟩,⟨#[99]⟩].take (n % 4)
noncomputable def msgP (r:Mr):Ms:=
 if r.k % 6=0 then ⟨1,docP r.doc,(max r.n (-1)).tmod 5001,En.none,0,0,0,false,V.none,fldA r.f.length⟩
 else if r.k % 6=1 then ⟨2,docP r.doc,0,En.none,0,0,0,false,V.none, []⟩
 else if r.k % 6=2 then ⟨3,docP r.doc,(max r.n 0).tmod 5001,entryP { r.e with snd:=true },0,0,0,false,V.none, []⟩
 else if r.k % 6=3 then ⟨4,docP r.doc,(max r.n 0).tmod 5001,En.none,0,0,0,r.there,if r.there=true then (oneP 6 (r.v.take 60)).1 else V.none, []⟩
 else if r.k % 6=4 then ⟨5,docP r.doc,(max r.n 0).tmod 5000,entryP { r.e with snd:=true },0,0,0,false,V.none, []⟩
 else ⟨6,docP r.doc,0,En.none,r.src,r.seq,max r.err 1,false,V.none, []⟩
def hv19 (r:Mr):Nat:=hv10 r.e+r.doc.size+hvT r.v+(r.f.map fun s=>s.size+1).sum
theorem Yq (d:ByteArray):1<=(docP d).size/\(docP d).size<=20:=by
 have h:(docP d).size=1+(min (min d.size 19) d.size - 0):=by
  rw [docP,ByteArray.size_append,ByteArray.size_extract];rfl
 omega
theorem zjw (d:ByteArray):((docP d).toList== [])=false:=by
 have h:=(Yq d).1
 cases e:(docP d).toList with
 | nil=>
   rw [ByteArray.toList_eq] at e
   have h2:(docP d).data.toList.length=(docP d).size:=by rw [Array.length_toList];rfl
   rw [e] at h2;simp at h2;omega
 |cons a r=>rfl
theorem zds (n:Nat):fldA n= [] ∨fldA n= [⟨#[97]⟩] ∨fldA n= [⟨#[97]⟩,⟨#[98]⟩] ∨fldA n= [⟨#[97]⟩,⟨#[98]⟩,⟨#[99]⟩] :=by
 have h:n % 4=0∨n % 4=1∨n % 4=2∨n % 4=3:=by omega
 unfold fldA
 rcases h with h|h|h|h<;>rw [h]
 .exact .inl rfl
 .exact .inr (.inl rfl)
 .exact .inr (.inr (.inl rfl))
 .exact .inr (.inr (.inr rfl))
theorem zcc (n:Nat):fieldsSound (fldA n)=true:=by
 have v1:Lib.validD [(97:UInt8)] =true:=by decide
 have v2:Lib.validD [(98:UInt8)] =true:=by decide
 have v3:Lib.validD [(99:UInt8)] =true:=by decide
 have t1:(⟨#[97]⟩:ByteArray).toList= [97] :=by rw [ByteArray.toList_eq]
 have t2:(⟨#[98]⟩:ByteArray).toList= [98] :=by rw [ByteArray.toList_eq]
 have t3:(⟨#[99]⟩:ByteArray).toList= [99] :=by rw [ByteArray.toList_eq]
 rcases zds n with h|h|h|h<;>rw [h]
 .rw [Q1 (k:=0) rfl (fun j hj=>by omega)];rfl
 .rw [Q1 (k:=1) rfl (fun j hj=>by
   obtain rfl:j=0:=by omega
   rw [zag (by simp)];simp [v1])];rfl
 .rw [Q1 (k:=2) rfl (fun j hj=>by
   obtain rfl|rfl:j=0∨j=1:=by omega
   .rw [zag (by simp)];simp [v1]
   .rw [Kq (by simp)];simp [v2,t1,t2,Op.bytesLess])];rfl
 .rw [Q1 (k:=3) rfl (fun j hj=>by
   obtain rfl|rfl|rfl:j=0∨j=1∨j=2:=by omega
   .rw [zag (by simp)];simp [v1]
   .rw [Kq (by simp)];simp [v2,t1,t2,Op.bytesLess]
   .rw [Kq (by simp)];simp [v3,t2,t3,Op.bytesLess])];rfl
theorem Jw (n:Nat):(fldA n).length<=3/\∀t ∈ fldA n,t.size=1:=by
 rcases zds n with h|h|h|h<;>rw [h]
 .exact ⟨by decide,fun t ht=>by cases ht⟩
 .exact ⟨by decide,fun t ht=>by simp only [List.mem_cons,List.mem_nil_iff,or_false] at ht;subst ht;rfl⟩
 .exact ⟨by decide,fun t ht=>by simp only [List.mem_cons,List.mem_nil_iff,or_false] at ht;rcases ht with rfl|rfl<;>rfl⟩
 .exact ⟨by decide,fun t ht=>by simp only [List.mem_cons,List.mem_nil_iff,or_false] at ht;rcases ht with rfl|rfl|rfl<;>rfl⟩
theorem Jk:enNone En.none=true:=by simp [enNone,En.none,eqv]
theorem Qc:eqv V.none V.none=true:=by simp [eqv]
theorem Xp (n b m:Int) (hb: -1<=b) (hb0:b<=0) (hm:0<m) (h1:2<=m):b<=(max n b).tmod m/\(max n b).tmod m<=m - 1:=by
 by_cases h:0<=max n b
 .rw [Int.tmod_eq_emod_of_nonneg h]
  have h2:=Int.emod_nonneg (max n b) (by omega:m≠0)
  have h3:=Int.emod_lt_of_pos (max n b) hm
  omega
 .have e:max n b= -1:=by omega
  have hb1:b= -1:=by omega
  rw [e,Int.neg_tmod,hb1]
  have h2:(1:Int).tmod m=1:=by
   rw [Int.tmod_eq_emod_of_nonneg (by decide)]
   exact Int.emod_eq_of_lt (by decide) (by omega)
  rw [h2];omega
theorem zii {e:En} (h:enSound e=true):enNone e=false:=by
 have h1:e.k≠0:=by
  intro e0
  unfold enSound at h
  rw [e0] at h
  simp at h
 simp [enNone,h1]
theorem zqa (r:Mr) (_he:0<=r.err):msgSound (msgP r)=true:=by
 have hd:=zjw r.doc
 have hs:=Yq r.doc
 have hE:=zdk { r.e with snd:=true } rfl
 have hN:=zii hE
 have t1:=Xp r.n (-1) 5001 (by decide) (by decide) (by decide) (by decide)
 have t2:=Xp r.n 0 5001 (by decide) (by decide) (by decide) (by decide)
 have t3:=Xp r.n 0 5000 (by decide) (by decide) (by decide) (by decide)
 have hf:=zcc r.f.length
 have hf0:fieldsSound [] =true:=zcc 0
 have ez:(max r.err 1==(0:Int))=false:=by rw [beq_eq_false_iff_ne];omega
 have hlt:decide ((docP r.doc).size<=20)=true:=decide_eq_true hs.2
 unfold msgP
 split
 .simp only [msgSound,sndM,sameM,hd,hlt,Jk,Qc,hf,numberedB,bringsB]
  simp [t1];omega
 split
 .simp only [msgSound,sndM,sameM,hd,hlt,Jk,Qc,hf0,numberedB,bringsB]
  simp
 split
 .simp only [msgSound,sndM,sameM,hd,hlt,hE,hN,Qc,hf0,numberedB,bringsB]
  simp [t2];omega
 split
 .cases hth:r.there with
  | true=>
    simp only [msgSound,sndM,sameM,hd,hlt,Jk,hf0,numberedB,bringsB]
    simp [t2];omega
  | false=>
    simp only [msgSound,sndM,sameM,hd,hlt,Jk,hf0,numberedB,bringsB]
    simp [t2,Qc];omega
 split
 .simp only [msgSound,sndM,sameM,hd,hlt,hE,hN,Qc,hf0,numberedB,bringsB]
  simp [t3];omega
 .simp only [msgSound,sndM,sameM,hd,hlt,Jk,Qc,hf0,numberedB,bringsB,ez]
  simp
theorem zdi (r:Rc) (h:hv10 r<=3000):asum ({ r with snd:=true } :Rc).acts<=3000:=zmx r h
theorem zab (r:Mr) (h:hv19 r<=3000):hv10 r.e<=3000:=by unfold hv19 at h;omega
theorem zc0 (n:Nat):(encFs (fldA n)).length<=15:=by
 obtain ⟨h1,h2⟩:=Jw n
 have h:=zdr (fldA n) 1 (fun t ht=>Nat.le_of_eq (h2 t ht))
 omega
theorem zli (r:Mr) (h:hv10 r.e<=3000):(tailM (msgP r)).1=0/\(tailM (msgP r)).2.length<=40000:=by
 have hE:=zdk { r.e with snd:=true } rfl
 have hB:=zfd { r.e with snd:=true } rfl (zdi r.e h)
 have hl:=zc0 r.f.length
 obtain ⟨o1,o2⟩:=X1 hE (Nat.le_trans hB (by decide))
 unfold msgP
 split
 .refine ⟨rfl, ?_⟩
  show (be (fldA r.f.length).length 1++encFs (fldA r.f.length)).length<=_
  rw [List.length_append,Zc];omega
 split
 .exact ⟨rfl,by show [].length<=_;simp⟩
 split
 .refine ⟨o1, ?_⟩
  show (outB (enSound (entryP { r.e with snd:=true })) (encE (entryP { r.e with snd:=true }))).length<=_
  rw [o2];exact hB
 split
 .cases hth:r.there with
  | true=>
    obtain ⟨l1,_,_,_,_⟩:=Qt r.v
    have l6:=zd1 r.v
    obtain ⟨b1,b2⟩:=X1 l1 (Nat.le_trans l6 (by decide))
    refine ⟨b1, ?_⟩
    show (1::outB (lightB (oneP 6 (r.v.take 60)).1) (encV (oneP 6 (r.v.take 60)).1)).length<=_
    rw [b2,List.length_cons];omega
  |false=>exact ⟨rfl,by show [(0:UInt8)].length<=_;simp⟩
 split
 .refine ⟨o1, ?_⟩
  show (outB (enSound (entryP { r.e with snd:=true })) (encE (entryP { r.e with snd:=true }))).length<=_
  rw [o2];exact hB
 .refine ⟨rfl, ?_⟩
  show (be r.src.toNat 4++be r.seq.toNat 4++be (max r.err 1).toNat 2).length<=_
  simp [Zc]
theorem zid (r:Mr):(msgP r).doc=docP r.doc:=by
 unfold msgP
 repeat' split
 all_goals rfl
theorem zel (r:Mr) (he:0<=r.err) (h:hv10 r.e<=3000):∃bs,encMsg (msgP r)=(0,bs):=by
 obtain ⟨t1,t2⟩:=zli r h
 have hd:=(Yq r.doc).2
 have hdl:(msgP r).doc.data.toList.length<=20:=by rw [zid,Array.length_toList];exact hd
 rw [encMsg,encOut,zqa r he,if_pos rfl,t1,if_pos rfl,if_neg]
 .exact ⟨_,rfl⟩
 have hnb:(nbB (numberedB (msgP r).k) ((msgP r).n+1).toNat).length<=4:=by
  unfold nbB
  split<;>simp [Zc]
 simp only [List.length_append,Zc,List.length_cons,List.length_nil]
 omega
theorem ze9 (r:Mr):(msgP r).f.length<=3/\∀t ∈ (msgP r).f,t.size=1:=by
 have h:=Jw r.f.length
 unfold msgP
 repeat' split
 all_goals first
  |exact h
  |exact ⟨Nat.zero_le _,fun t ht=>by cases ht⟩
theorem zdp (r:Mr) (hs:(entryP { r.e with snd:=true }).small) (h:hv10 r.e<=3000):(msgP r).Fits:=by
 have hB:=zfd { r.e with snd:=true } rfl (zdi r.e h)
 have he:(entryP { r.e with snd:=true }).small/\(encE (entryP { r.e with snd:=true })).length<=60000:=⟨hs,Nat.le_trans hB (by decide)⟩
 have hf:(encFs (fldA r.f.length)).length<=70368744177664:=Nat.le_trans (zc0 _) (by decide)
 have h0:(encFs []).length<=70368744177664:=by simp [encFs]
 unfold msgP
 split
 .exact Z5 Ym Yc hf
 split
 .exact Z5 Ym Yc h0
 split
 .exact Z5 he Yc h0
 split
 .cases hth:r.there with
  | true=>
    obtain ⟨_,l2,_,_,l5⟩:=Qt r.v
    exact Z5 Ym ⟨Nat.le_trans l2 (by decide),l5⟩ h0
  |false=>exact Z5 Ym Yc h0
 split
 .exact Z5 he Yc h0
 .exact Z5 Ym Yc h0
theorem zgx {w:World} {B:Nat} {x y:Ms} {c d:MC} (h1:IsMsg w B x c) (h2:IsMsg w B y d):sameMs c d (eqB x.f y.f) (eqB x.e y.e) (eqv x.v y.v)=eqB x y:=by
 cases h1 with
 |mk c e v f g1 g2 g3 g4=>
 cases h2 with
 |mk d e' v' f' k1 k2 k3 k4=>
 dsimp only
 by_cases hq:(⟨c.k,c.doc,c.n,e,c.src,c.seq,c.err,c.there,v,f⟩:Ms)=⟨d.k,d.doc,d.n,e',d.src,d.seq,d.err,d.there,v',f'⟩
 .rw [Zy hq]
  injection hq with a1 a2 a3 a4 a5 a6 a7 a8 a9 a10
  rw [a4,a9,a10,K8,K8]
  simp [sameMs,sameB,a1,a2,a3,a5,a6,a7,a8,eqv]
 .rw [Zu hq]
  cases hs:sameMs c d (eqB f f') (eqB e e') (eqv v v') with
  |false=>rfl
  | true=>
    exfalso
    simp only [sameMs,sameB,Bool.and_eq_true,beq_iff_eq] at hs
    obtain ⟨⟨a1,a2,a3,a5,a6,a7,a8,a10⟩,a4,a9⟩:=hs
    refine hq ?_
    have b9:v=v':=by simpa [eqv] using a9
    rw [a1,Yv a2,a3,a5,a6,a7,a8,Z6 a10,Z6 a4,b9]
theorem Xd {w W:World} (h:Below w.heap.size w.drew W):Below w.heap.size w W:=(Zj w).trans h
structure MR where
 k:Int
 doc:ByteArray
 n:Int
 e:RC
 src:Int
 seq:Int
 err:Int
 there:Bool
 va:Option Addr
 vl:Nat
 vc:Nat
 fa:Option Addr
 fl:Nat
 fc:Nat
 snd:Bool
structure MR.Bnd (c:MR):Prop where
 k0:0<=c.k
 k1:c.k<256
 d1:c.doc.size<=140737488355328
 n0: -9223372036854775808<=c.n
 n1:c.n<=9223372036854775807
 s0:0<=c.src
 s1:c.src<4294967296
 q0:0<=c.seq
 q1:c.seq<4294967296
 e0:0<=c.err
 e1:c.err<65536
def mrcells (c:MR):List Value:= [.int .u8 c.k, .string c.doc, .int .i64 c.n, .int .u8 c.e.k, .int .u32 c.e.src, .int .u32 c.e.seq, .slice c.e.va c.e.vl c.e.vc, .slice c.e.oa c.e.ol c.e.oc, .slice c.e.aa c.e.al c.e.ac, .bool c.e.snd, .int .u32 c.src, .int .u32 c.seq, .int .u16 c.err, .bool c.there, .slice c.va c.vl c.vc, .slice c.fa c.fl c.fc, .bool c.snd]
inductive IsMr (w:World) (B:Nat):Mr->MR->Prop
 |mk (c:MR) (e:Rc) (v:List Tk) (f:List ByteArray) (hb:c.Bnd) (he:IsRec w B e c.e) (hv:IsToks w B v c.va c.vl c.vc) (hf:IsStrs w B f c.fa c.fl c.fc):IsMr w B ⟨c.k,c.doc,c.n,e,c.src,c.seq,c.err,c.there,v,f⟩ c
theorem IsMr.later_ {w w':World} {m:Mr} {c:MR} (h:IsMr w w.heap.size m c) (hb:Below w.heap.size w w'):IsMr w' w'.heap.size m c:=by
 cases h with
 |mk c e v f h1 h2 h3 h4=>exact .mk c e v f h1 (zad h2 hb) (h3.later_ hb) (h4.later_ hb)
theorem IsMr.told {w:World} {B:Nat} {m:Mr} {c:MR} (h:IsMr w B m c):IsMr w B m { c with snd:=true } :=by
 cases h with
 |mk _ e v f h1 h2 h3 h4=>exact .mk { c with snd:=true } e v f ⟨h1.k0,h1.k1,h1.d1,h1.n0,h1.n1,h1.s0,h1.s1,h1.q0,h1.q1,h1.e0,h1.e1⟩ h2 h3 h4
def hvF (l:List ByteArray):Nat:=(l.map fun s=>s.size+1).sum
theorem zke (l:List ByteArray) (j:Nat) (h:j<l.length):hvF (l.take (j+1))=hvF (l.take j)+(l[j].size+1):=Qr _ l j h
theorem zmu (l:List ByteArray) (j:Nat) (h:j<l.length):hvF (l.take j)+(l[j].size+1)<=hvF l:=Ja (fun s:ByteArray=>s.size+1) l j h
set_option maxRecDepth 100000 in
theorem zb6 (w:World) (c:MR) (x:Mr) (h:IsMr w w.heap.size x c) (hz:hv19 x<=1099511627776):
 Calls Tryz.prog 10 #[.agg #[.int .u8 c.k, .string c.doc, .int .i64 c.n, .int .u8 c.e.k, .int .u32 c.e.src, .int .u32 c.e.seq, .slice c.e.va c.e.vl c.e.vc, .slice c.e.oa c.e.ol c.e.oc, .slice c.e.aa c.e.al c.e.ac, .bool c.e.snd, .int .u32 c.src, .int .u32 c.seq, .int .u16 c.err, .bool c.there, .slice c.va c.vl c.vc, .slice c.fa c.fl c.fc, .bool c.snd]] w (TheInt w (hv19 x)):=by
 cases h with
 |mk _ er tl fl hbd he hv hf=>
 obtain ⟨R,hR⟩:∃R,TheInt w (hv19 ⟨c.k,c.doc,c.n,er,c.src,c.seq,c.err,c.there,tl,fl⟩)=R:=⟨_,rfl⟩
 rw [hR]
 have HR:=qh hR
 have hz6:hv10 er+c.doc.size+hvT tl+hvF fl<=1099511627776:=hz
 have HZ:Hid (hv10 er+c.doc.size+hvT tl+hvF fl<=1099511627776):=qh hz6
 have HTL:=qh hv.len
 have HFL:=qh hf.len
 have hal:Below w.heap.size w (w.alloc (.cells #[.int .u8 c.k, .string c.doc, .int .i64 c.n, .int .u8 c.e.k, .int .u32 c.e.src, .int .u32 c.e.seq, .slice c.e.va c.e.vl c.e.vc, .slice c.e.oa c.e.ol c.e.oc, .slice c.e.aa c.e.al c.e.ac, .bool c.e.snd, .int .u32 c.src, .int .u32 c.seq, .int .u16 c.err, .bool c.there, .slice c.va c.vl c.vc, .slice c.fa c.fl c.fc, .bool c.snd] 31)):=(Below.refl _ _).alloc (Nat.le_refl _) _
 have HD:=qh (show BC (w.alloc (.cells #[.int .u8 c.k, .string c.doc, .int .i64 c.n, .int .u8 c.e.k, .int .u32 c.e.src, .int .u32 c.e.seq, .slice c.e.va c.e.vl c.e.vc, .slice c.e.oa c.e.ol c.e.oc, .slice c.e.aa c.e.al c.e.ac, .bool c.e.snd, .int .u32 c.src, .int .u32 c.seq, .int .u16 c.err, .bool c.there, .slice c.va c.vl c.vc, .slice c.fa c.fl c.fc, .bool c.snd] 31)) w.heap.size (mrcells c) from BC.start w #[.int .u8 c.k, .string c.doc, .int .i64 c.n, .int .u8 c.e.k, .int .u32 c.e.src, .int .u32 c.e.seq, .slice c.e.va c.e.vl c.e.vc, .slice c.e.oa c.e.ol c.e.oc, .slice c.e.aa c.e.al c.e.ac, .bool c.e.snd, .int .u32 c.src, .int .u32 c.seq, .int .u16 c.err, .bool c.there, .slice c.va c.vl c.vc, .slice c.fa c.fl c.fc, .bool c.snd] 31)
 obtain ⟨z0,hz0⟩:∃z0:Int,z0=(hv10 er:Int):=⟨_,rfl⟩
 have HAL:=qh hal
 have HH:Hid (∀W,Below w.heap.size w W->Calls Tryz.prog 40 #[.agg #[.int .u8 c.e.k, .int .u32 c.e.src, .int .u32 c.e.seq, .slice c.e.va c.e.vl c.e.vc, .slice c.e.oa c.e.ol c.e.oc, .slice c.e.aa c.e.al c.e.ac, .bool c.e.snd]] W fun e w'=>e= .returned (.int .i64 z0)/\Below W.heap.size W w'):=fun W hW=>by rw [hz0];exact zlp W c.e er (zad he hW) (by omega)
 have m1:=hv.max;have m2:=hv.cap;have m3:=hf.max;have m4:=hf.cap
 have HV:=qh hv;have HF:=qh hf
 have HZ0:=qh hz0
 clear hR hal hv hf he hbd hz hz6 hz0
 go_enter Tryz.func10,Tryz.ntmps10
 go_upto_region 1 with fail
 have HDD:=HD.out
 have HAA:=HAL.out
 generalize hw2:World.alloc _ _=w2 at HDD HAA ⊢
 clear hw2 HD HAL
 have HD:=qh HDD
 have HAL:=qh HAA
 clear HDD HAA
 have q1:=HD.out.at_ 1 _ rfl;have q3:=HD.out.at_ 3 _ rfl;have q4:=HD.out.at_ 4 _ rfl;have q5:=HD.out.at_ 5 _ rfl;have q6:=HD.out.at_ 6 _ rfl;have q7:=HD.out.at_ 7 _ rfl;have q8:=HD.out.at_ 8 _ rfl;have q9:=HD.out.at_ 9 _ rfl
 have zs:=HD.out.lt
 have HFB:Hid (∀W,Below w2.heap.size w2.drew W->W.cell? ⟨w.heap.size,1,none⟩=some (.string c.doc)/\W.cell? ⟨w.heap.size,3,none⟩=some (.int .u8 c.e.k)/\W.cell? ⟨w.heap.size,4,none⟩=some (.int .u32 c.e.src)/\W.cell? ⟨w.heap.size,5,none⟩=some (.int .u32 c.e.seq)/\W.cell? ⟨w.heap.size,6,none⟩=some (.slice c.e.va c.e.vl c.e.vc)/\W.cell? ⟨w.heap.size,7,none⟩=some (.slice c.e.oa c.e.ol c.e.oc)/\W.cell? ⟨w.heap.size,8,none⟩=some (.slice c.e.aa c.e.al c.e.ac)/\W.cell? ⟨w.heap.size,9,none⟩=some (.bool c.e.snd)):=by
  intro W hW
  have hk:∀o u,w2.cell? ⟨w.heap.size,o,none⟩=some u->W.cell? ⟨w.heap.size,o,none⟩=some u:=fun o u h=>Zd hW (Zd (Zj w2) h zs) zs
  exact ⟨hk _ _ q1,hk _ _ q3,hk _ _ q4,hk _ _ q5,hk _ _ q6,hk _ _ q7,hk _ _ q8,hk _ _ q9⟩
 have HHD:Hid (∀W,Below w2.heap.size w2.drew W->Calls Tryz.prog 40 #[.agg #[.int .u8 c.e.k, .int .u32 c.e.src, .int .u32 c.e.seq, .slice c.e.va c.e.vl c.e.vc, .slice c.e.oa c.e.ol c.e.oc, .slice c.e.aa c.e.al c.e.ac, .bool c.e.snd]] W fun e w'=>e= .returned (.int .i64 z0)/\Below W.heap.size W w'):=fun W hW=>HH.out W (HAL.out.trans ((Xd hW).mono HAL.out.size))
 clear q1 q3 q4 q5 q6 q7 q8 q9
 refine wp_region_noPanic ?_
 go_region_held_law (fun W=>W.cell? ⟨w.heap.size,1,none⟩=some (.string c.doc)/\W.cell? ⟨w.heap.size,3,none⟩=some (.int .u8 c.e.k)/\W.cell? ⟨w.heap.size,4,none⟩=some (.int .u32 c.e.src)/\W.cell? ⟨w.heap.size,5,none⟩=some (.int .u32 c.e.seq)/\W.cell? ⟨w.heap.size,6,none⟩=some (.slice c.e.va c.e.vl c.e.vc)/\W.cell? ⟨w.heap.size,7,none⟩=some (.slice c.e.oa c.e.ol c.e.oc)/\W.cell? ⟨w.heap.size,8,none⟩=some (.slice c.e.aa c.e.al c.e.ac)/\W.cell? ⟨w.heap.size,9,none⟩=some (.bool c.e.snd))
  ((refine HFB.out _ ?_;(first|(with_reducible exact bl4)|(with_reducible exact Below.refl _ _))))
  (first
   |(go_at_call 40;(with_reducible refine (HHD.out _ (Below.refl _ _)).mono ?_);rintro e w4 ⟨rfl,hb4⟩;have bl4:Below w2.heap.size w2.drew w4:=hb4))
 refine NoPanic.normal ?_
 have hbw:Below w.heap.size w w4:=HAL.out.trans ((Xd bl4).mono HAL.out.size)
 have HB:=qh hbw
 have HD1:=qh (HD.out.keep (Xd bl4) zs)
 have HV1:=qh (HV.out.keep hbw)
 have HF1:=qh (HF.out.keep hbw)
 have zs4:w.heap.size<w4.heap.size:=HD1.out.lt
 clear hbw bl4 zs
 go_wp2_with fail
 go_loopg [3,4] c.vl (fun gh z i wr=>∃(x:Int) (j:Nat),j<=c.vl/\gh=c.vl - j/\z= .int .i64 x/\i= .int .i64 j/\Below w4.heap.size w4 wr/\Hid (x=hv10 er+c.doc.size+hvT (tl.take j)))
 case atStart=>exact ⟨_,0,Nat.zero_le _,rfl,rfl,rfl,Below.refl _ _,qh (by
  have h1:=HZ0.out;have h2:=HZ.out
  clear HZ HZ0 HR HV HF
  try rw [IntKind.wrap_i64]
  rw [show hvT (tl.take 0)=0 from by simp [hvT]]
  omega)⟩
 case round=>
  obtain ⟨y,j,hj,rfl,rfl,rfl,hbl,HX⟩:=hrel
  obtain ⟨wu,hwu⟩:∃wu,wu=wr:=⟨_,rfl⟩
  subst hwu
  have D:=HD1.out.keep hbl zs4
  have q3:=D.at_ 14 _ rfl;have q4:=D.at_ 15 _ rfl
  have zu:=D.lt
  have HBL:=qh hbl
  clear hbl D
  by_cases hlt:j<c.vl
  .obtain ⟨b2,q2,hp2,hva,hb2,htk,_⟩:=HV1.out.get hlt
   have htk1:=htk.keep HBL.out (by omega)
   have t2:=htk1.c2
   rw [hva] at q3
   have hb2w:b2<wu.heap.size:=World.block_lt_of_cell? wu _ t2
   clear htk htk1 hva
   have HM:=qh (Kb tl j hp2);have HS:=qh (Kt tl j hp2)
   go_wp2_with fail
   go_roundg (c.vl - (j+1))
   case measure=>omega
   case rel=>exact ⟨_,j+1,by omega,rfl,rfl,by go_num,HBL.out,qh (by
    have h1:=HX.out;have h2:=HM.out;have h3:=HZ.out;have h6:=HS.out
    rw [h6]
    clear HX HM HS HZ HR HV HF
    rw [Zz (x:=((tl[j]'hp2).s.size:Int)+1) (by omega) (by omega),Zz (by omega) (by omega)]
    omega)⟩
  .skip
   go_wp2_with fail
   go_loopg [3,5] c.fl (fun gh z i wr=>∃(x:Int) (j:Nat),j<=c.fl/\gh=c.fl - j/\z= .int .i64 x/\i= .int .i64 j/\Below w4.heap.size w4 wr/\Hid (x=hv10 er+c.doc.size+hvT tl+hvF (fl.take j)))
   case atStart=>exact ⟨_,0,Nat.zero_le _,rfl,rfl,rfl,HBL.out,qh (by
    have h1:=HX.out
    have h2:tl.take j=tl:=List.take_of_length_le (by have:=HTL.out;omega)
    rw [h2] at h1
    rw [h1];simp [hvF])⟩
   case round=>
    obtain ⟨y,j,hj,rfl,rfl,rfl,hbl,HX2⟩:=hrel
    obtain ⟨wv,hwv⟩:∃wv,wv=wr:=⟨_,rfl⟩
    subst hwv
    have D:=HD1.out.keep hbl zs4
    have q4:=D.at_ 15 _ rfl
    have zu:=D.lt
    have HBL:=qh hbl
    clear hbl D
    by_cases hlt:j<c.fl
    .obtain ⟨b,o,kl,hfa,hbB,hcell,hsz⟩:=HF1.out.get hlt
     have s0:=Zd HBL.out hcell (by omega)
     have hbw:b<wv.heap.size:=World.block_lt_of_cell? wv _ s0
     have HM:=qh (zmu fl j kl);have HS:=qh (zke fl j kl)
     rw [hfa] at q4
     clear hcell hfa
     go_wp2_with fail
     go_roundg (c.fl - (j+1))
     case measure=>omega
     case rel=>exact ⟨_,j+1,by omega,rfl,rfl,by go_num,HBL.out,qh (by
      have h1:=HX2.out;have h2:=HM.out;have h3:=HZ.out;have h6:=HS.out
      rw [h6]
      clear HX HX2 HM HS HZ HR HV HF
      rw [Zz (by omega) (by omega)]
      omega)⟩
    .skip
     go_wp2_with fail
     rw [<-HR.out]
     exact ⟨by
      have h1:=HX2.out
      have h2:fl.take j=fl:=List.take_of_length_le (by have:=HFL.out;omega)
      rw [h2] at h1
      rw [h1];simp only [hv19,hvF];push_cast;rfl,HB.out.trans (HBL.out.mono HB.out.size)⟩
end Go.Proofs.YtfoahkbnheijcaaGreatDoor
