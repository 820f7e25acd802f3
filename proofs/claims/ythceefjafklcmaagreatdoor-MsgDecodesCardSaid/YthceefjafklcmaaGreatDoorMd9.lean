/-
  Contracts of the functions that the law reaches: Writer.comp: a component is written.
-/
import Derived.Test.YthceefjafklcmaaGreatDoorMd8
import Derived.Test.YthceefjafklcmaaGreatDoorMd7
namespace Go.Proofs.YthceefjafklcmaaGreatDoor
open Go.RowKit
theorem in10_75_any (s:ByteArray) (w:World) (hs:s.size≤140737488355328):Calls Tryz.prog 80 #[.string s, .int .u8 75] w fun e w'=>e= .returned (.bool (hasB s 75))∧Below w.heap.size w w':=in10_any s 75 w hs
theorem in10_73_any (s:ByteArray) (w:World) (hs:s.size≤140737488355328):Calls Tryz.prog 80 #[.string s, .int .u8 73] w fun e w'=>e= .returned (.bool (hasB s 73))∧Below w.heap.size w w':=in10_any s 73 w hs
theorem in10_74_any (s:ByteArray) (w:World) (hs:s.size≤140737488355328):Calls Tryz.prog 80 #[.string s, .int .u8 74] w fun e w'=>e= .returned (.bool (hasB s 74))∧Below w.heap.size w w':=in10_any s 74 w hs
theorem in10_78_any (s:ByteArray) (w:World) (hs:s.size≤140737488355328):Calls Tryz.prog 80 #[.string s, .int .u8 78] w fun e w'=>e= .returned (.bool (hasB s 78))∧Below w.heap.size w w':=in10_any s 78 w hs
theorem in10_86_any (s:ByteArray) (w:World) (hs:s.size≤140737488355328):Calls Tryz.prog 80 #[.string s, .int .u8 86] w fun e w'=>e= .returned (.bool (hasB s 86))∧Below w.heap.size w w':=in10_any s 86 w hs
theorem in10_83_any (s:ByteArray) (w:World) (hs:s.size≤140737488355328):Calls Tryz.prog 80 #[.string s, .int .u8 83] w fun e w'=>e= .returned (.bool (hasB s 83))∧Below w.heap.size w w':=in10_any s 83 w hs
set_option maxHeartbeats 8000000 in
set_option maxRecDepth 100000 in
theorem refCompW_any (x:Cm) (w:World) (B wb:Nat) (v:Value) (bs:List UInt8) (c:CC) (h:Wr w B wb v bs) (hx:IsComp w B x c) (hsz:bs.length+(encC x).length≤140737488355328):
    Calls Tryz.prog 83 #[.pointer (some ⟨wb,0,none⟩), .agg #[.int .u8 c.k, .slice c.pa c.pl c.pc, .string c.key, .int .i64 c.i, .int .i64 c.j, .int .i64 c.n, .int .u8 c.v.k, .int .i64 c.v.n, .string c.v.s, .slice c.v.la c.v.ll c.v.lc, .slice c.v.oa c.v.ol c.v.oc, .string c.s]] w fun e w'=>e= .returned (.tuple #[])∧∃v',Wr w' B wb v' (bs++encC x)∧WStep w w' wb v v':=by
  cases hx with
  |mk c p vv hbd hp hv=>
  obtain ⟨ck,pa,pl,pc,key,i,j,n,⟨vk,vn,vs,vla,vll,vlc,voa,vol,voc⟩,s⟩:=c
  dsimp only at hp hv ⊢
  have HV:Hid (∀W,Below B w W→IsVal W B vv ⟨vk,vn,vs,vla,vll,vlc,voa,vol,voc⟩):=fun W hW=>hv.keep hW
  have HP:=Lib.hid hp;have H0:=Lib.hid h
  have k0:=hbd.k0;have k1:=hbd.k1;have c1:=hp.cap;have c2:=hp.max;have c3:=hp.few
  dsimp only at k0 k1
  have el:=hp.len
  have wx:=WG.start h #[.int .u8 ck, .slice pa pl pc, .string key, .int .i64 i, .int .i64 j, .int .i64 n, .int .u8 vk, .int .i64 vn, .string vs, .slice vla vll vlc, .slice voa vol voc, .string s] 97
  have hB:=h.base;have hlt:=h.lt
  have he:encC ⟨ck,p,key,i,j,n,vv,s⟩=be (ck % 18446744073709551616).toNat 1++be p.length 1++encP p++encT ⟨ck,p,key,i,j,n,vv,s⟩:=rfl
  have ell:be ((pl:Int) % 18446744073709551616).toNat 1=be p.length 1:=by rw [len_mod _ (by omega),el]
  have ELL:=Lib.hid ell
  have EL:=Lib.hid el
  rw [he] at hsz ⊢
  simp only [List.length_append,be_length] at hsz
  obtain ⟨T,hT⟩:∃T,encT ⟨ck,p,key,i,j,n,vv,s⟩=T:=⟨_,rfl⟩
  rw [hT] at hsz ⊢
  have HT:=Lib.hid hT
  clear hT he hv hp hbd h el ell
  have u0:IntKind.u64.wrap ck=ck:=u64_id _ (by omega) (by omega)
  have u3:IntKind.u64.wrap (pl:Int)=(pl:Int):=u64_id _ (by omega) (by omega)
  have u1:IntKind.u64.wrap i=i % 18446744073709551616:=u64_emod _
  have u2:IntKind.u64.wrap j=j % 18446744073709551616:=u64_emod _
  have u4:IntKind.u64.wrap n=n % 18446744073709551616:=u64_emod _
  go_enter Tryz.func83,Tryz.ntmps83
  go_wp2_with (first|(go_at_call 81;(with_reducible refine (number1_any _ ?_ ?_ _ B wb _ _ wx.wrt ?_).mono ?_);(focus omega);(focus omega);(focus ((first|omega|(simp only [List.length_append];omega)|(simp only [List.length_append,be_length];omega))));rintro e w2 ⟨rfl,v2,hr2,hs2⟩;replace wx:=wx.next hr2 hs2;obtain ⟨y0,y1,y2,y3,y4,y5,y6,y7,y8,y9,y10,y11⟩:=row12 wx.at_)|(go_at_call 81;(with_reducible refine (number1_any _ ?_ ?_ _ B wb _ _ wx.wrt ?_).mono ?_);(focus omega);(focus omega);(focus ((first|omega|(simp only [List.length_append];omega)|(simp only [List.length_append,be_length];omega))));rintro e w2 ⟨rfl,v2,hr2,hs2⟩;replace wx:=wx.next hr2 hs2;obtain ⟨y0,y1,y2,y3,y4,y5,y6,y7,y8,y9,y10,y11⟩:=row12 wx.at_))
  obtain ⟨PRE,hPRE⟩:∃PRE,bs++be (ck % 18446744073709551616).toNat 1++be ((pl:Int) % 18446744073709551616).toNat 1=PRE:=⟨_,rfl⟩
  rw [hPRE] at wx
  have hPL:PRE.length+(encP p).length+T.length≤140737488355328:=by rw [←hPRE,List.length_append,List.length_append,be_length,be_length];omega
  have hPE:PRE=bs++be (ck % 18446744073709551616).toNat 1++be p.length 1:=by rw [←hPRE,ELL.out]
  have HPE:=Lib.hid hPE
  clear hr2 hs2 hPRE hPE y0 y1 y2 y3 y4 y5 y6 y7 y8 y9 y10 y11
  go_loopw [4] (fun ii wr=>∃(k:Nat) (u:Value),k≤pl∧ii= .int .i64 k∧WG w wr B wb w.heap.size v u (PRE++encP (p.take k)) [.int .u8 ck, .slice pa pl pc, .string key, .int .i64 i, .int .i64 j, .int .i64 n, .int .u8 vk, .int .i64 vn, .string vs, .slice vla vll vlc, .slice voa vol voc, .string s]) (fun ii _=>pl - (intOf ii).toNat)
  case atStart=>exact ⟨0,v2,Nat.zero_le _,rfl,by simpa [encP] using wx⟩
  case round=>
    clear wx
    obtain ⟨k,u,hk,rfl,wx⟩:=hrel
    obtain ⟨y0,y1,y2,y3,y4,y5,y6,y7,y8,y9,y10,y11⟩:=row12 wx.at_
    by_cases hlt2:k<pl
    · obtain ⟨b,o',kl,rfl,hb,x1,xb⟩:=HP.out.get hlt2
      have hbW:=H0.out.keeps wx.st
      have x1:=x1.keep hbW hb
      have r0:=x1.c0;have r1:=x1.c1;have r2:=x1.c2
      have hle:=encP_le p (k+1)
      have ht:=encP_take p k kl
      have hlen:(PRE++encP (p.take k)).length+(encSt p[k]).length≤140737488355328:=by
        rw [ht,List.length_append] at hle;rw [List.length_append];omega
      have X1:Hid (∀W,Below B w W→StepAt W b (o'+k*3) p[k]):=by
        intro W hW
        obtain ⟨b2,o2,kl2,e2,hb2,x2,_⟩:=HP.out.get hlt2
        injection e2 with e2;injection e2 with e3 e4;subst e3 e4;exact x2.keep hW hb2
      have HE:Hid (∀l,PRE++encP (p.take k)++l=PRE++encP (p.take (k+1))↔l=encSt p[k]):=by
        intro l;rw [ht, ←List.append_assoc];exact List.append_cancel_left_eq _ _ _|>.to_iff
      obtain ⟨PK,hPK⟩:∃PK,PRE++encP (p.take k)=PK:=⟨_,rfl⟩
      rw [hPK] at wx hlen HE
      have u5:IntKind.u64.wrap p[k].i=p[k].i % 18446744073709551616:=u64_emod _
      cases hl:p[k].list with
      | true=>
        have hes:encSt p[k] =be ((1:Int) % 18446744073709551616).toNat 1++be (p[k].i % 18446744073709551616).toNat 8:=by rw [encSt,hl];rfl
        rw [hes] at hlen HE
        rw [hl] at r0
        simp only [List.length_append,be_length] at hlen
        have HL2:=Lib.hid hl
        clear hle ht hbW xb hPK hes hl x1
        go_wp2_with (first|(go_at_call 81;(with_reducible refine (number1_any _ ?_ ?_ _ B wb _ _ wx.wrt ?_).mono ?_);(focus omega);(focus omega);(focus ((first|omega|(simp only [List.length_append];omega)|(simp only [List.length_append,be_length];omega))));rintro e w2 ⟨rfl,v2,hr2,hs2⟩;replace wx:=wx.next hr2 hs2;obtain ⟨y0,y1,y2,y3,y4,y5,y6,y7,y8,y9,y10,y11⟩:=row12 wx.at_;have x1:=X1.out _ (H0.out.keeps wx.st);have r1:=x1.c1;have r2:=x1.c2;have r0:w2.cell? ⟨b,o'+k*3,none⟩=some (.bool true):=by have:=x1.c0;rwa [HL2.out] at this)|(go_at_call 81;(with_reducible refine (number8m_any _ _ B wb _ _ wx.wrt ?_).mono ?_);(focus ((first|omega|(simp only [List.length_append];omega)|(simp only [List.length_append,be_length];omega))));rintro e w2 ⟨rfl,v2,hr2,hs2⟩;replace wx:=wx.next hr2 hs2;obtain ⟨y0,y1,y2,y3,y4,y5,y6,y7,y8,y9,y10,y11⟩:=row12 wx.at_;have x1:=X1.out _ (H0.out.keeps wx.st);have r1:=x1.c1;have r2:=x1.c2;have r0:w2.cell? ⟨b,o'+k*3,none⟩=some (.bool true):=by have:=x1.c0;rwa [HL2.out] at this))
        go_roundw
        case rel=>exact ⟨k+1,v2,by omega,by go_num,wx.eqb (by rw [List.append_assoc];exact (HE.out _).2 rfl)⟩
        case measure=>simp [intOf];omega
      | false=>
        have hes:encSt p[k] =be ((0:Int) % 18446744073709551616).toNat 1++encS p[k].key:=by rw [encSt,hl];rfl
        rw [hes] at hlen HE
        rw [hl] at r0
        simp only [List.length_append,be_length] at hlen
        have HL2:=Lib.hid hl
        clear hle ht hbW xb hPK hes hl x1
        go_wp2_with (first|(go_at_call 81;(with_reducible refine (number1_any _ ?_ ?_ _ B wb _ _ wx.wrt ?_).mono ?_);(focus omega);(focus omega);(focus ((first|omega|(simp only [List.length_append];omega)|(simp only [List.length_append,be_length];omega))));rintro e w2 ⟨rfl,v2,hr2,hs2⟩;replace wx:=wx.next hr2 hs2;obtain ⟨y0,y1,y2,y3,y4,y5,y6,y7,y8,y9,y10,y11⟩:=row12 wx.at_;have x1:=X1.out _ (H0.out.keeps wx.st);have r1:=x1.c1;have r2:=x1.c2;have r0:w2.cell? ⟨b,o'+k*3,none⟩=some (.bool false):=by have:=x1.c0;rwa [HL2.out] at this)|(go_at_call 105;(with_reducible refine (refText_any _ _ B wb _ _ wx.wrt ?_).mono ?_);(focus ((first|omega|(simp only [List.length_append];omega)|(simp only [List.length_append,be_length];omega))));rintro e w2 ⟨rfl,v2,hr2,hs2⟩;replace wx:=wx.next hr2 hs2;obtain ⟨y0,y1,y2,y3,y4,y5,y6,y7,y8,y9,y10,y11⟩:=row12 wx.at_;have x1:=X1.out _ (H0.out.keeps wx.st);have r1:=x1.c1;have r2:=x1.c2;have r0:w2.cell? ⟨b,o'+k*3,none⟩=some (.bool false):=by have:=x1.c0;rwa [HL2.out] at this))
        go_roundw
        case rel=>exact ⟨k+1,v2,by omega,by go_num,wx.eqb (by rw [List.append_assoc];exact (HE.out _).2 rfl)⟩
        case measure=>simp [intOf];omega
    · have hk2:k=pl:=by omega
      subst hk2
      have hq:=wx.eqb (bs':=PRE++encP p) (by rw [List.take_of_length_le (by have:=EL.out;omega)])
      clear wx
      have wx:=hq
      clear hq
      obtain ⟨Q,hQ⟩:∃Q,PRE++encP p=Q:=⟨_,rfl⟩
      rw [hQ] at wx
      have hQL:Q.length+T.length≤140737488355328:=by rw [←hQ,List.length_append];omega
      have HQ:Hid (bs++(be (ck % 18446744073709551616).toNat 1++be p.length 1++encP p++T)=Q++T):=by
        unfold Hid;rw [←hQ,HPE.out];simp only [List.append_assoc]
      clear hQ hPL hsz
      by_cases e1:ck=1
      case pos=>
        subst e1
        have hTk:T=be (n % 18446744073709551616).toNat 8:=by rw [←HT.out];simp [encT,saysB,hasB]
        rw [hTk] at hQL
        have HTK:=Lib.hid hTk
        simp only [be_length] at hQL
        have HS:Hid (∀b:Nat,b≠46→hasB (says10B 1) b=hasB (saysB 1) b):=fun b hb=>says10_has _ b hb
        obtain ⟨SB,hSB⟩:∃SB,says10B 1=SB:=⟨_,rfl⟩
        have SZ10:Hid (SB.size≤2):=by
          unfold Hid;rw [←hSB];decide
        have s75:hasB SB 75=false:=by rw [←hSB,HS.out _ (by omega)];rfl
        have s73:hasB SB 73=false:=by rw [←hSB,HS.out _ (by omega)];rfl
        have s74:hasB SB 74=false:=by rw [←hSB,HS.out _ (by omega)];rfl
        have s78:hasB SB 78=true:=by rw [←hSB,HS.out _ (by omega)];rfl
        have s86:hasB SB 86=false:=by rw [←hSB,HS.out _ (by omega)];rfl
        have s83:hasB SB 83=false:=by rw [←hSB,HS.out _ (by omega)];rfl
        have HSB:=Lib.hid hSB
        clear hSB
        clear hTk
        go_wp2_with (first|(go_at_call 79;(with_reducible refine (says10_any _ _).mono ?_);rintro e w2 ⟨rfl,hb2⟩;rw [HSB.out];replace wx:=wx.behind hb2;obtain ⟨y0,y1,y2,y3,y4,y5,y6,y7,y8,y9,y10,y11⟩:=row12 wx.at_)|(go_at_call 80;(with_reducible refine (in10_75_any _ _ ?_).mono ?_);(focus (have:=SZ10.out;omega));rintro e w2 ⟨rfl,hb2⟩;replace wx:=wx.behind hb2;obtain ⟨y0,y1,y2,y3,y4,y5,y6,y7,y8,y9,y10,y11⟩:=row12 wx.at_)|(go_at_call 80;(with_reducible refine (in10_73_any _ _ ?_).mono ?_);(focus (have:=SZ10.out;omega));rintro e w2 ⟨rfl,hb2⟩;replace wx:=wx.behind hb2;obtain ⟨y0,y1,y2,y3,y4,y5,y6,y7,y8,y9,y10,y11⟩:=row12 wx.at_)|(go_at_call 80;(with_reducible refine (in10_74_any _ _ ?_).mono ?_);(focus (have:=SZ10.out;omega));rintro e w2 ⟨rfl,hb2⟩;replace wx:=wx.behind hb2;obtain ⟨y0,y1,y2,y3,y4,y5,y6,y7,y8,y9,y10,y11⟩:=row12 wx.at_)|(go_at_call 80;(with_reducible refine (in10_78_any _ _ ?_).mono ?_);(focus (have:=SZ10.out;omega));rintro e w2 ⟨rfl,hb2⟩;replace wx:=wx.behind hb2;obtain ⟨y0,y1,y2,y3,y4,y5,y6,y7,y8,y9,y10,y11⟩:=row12 wx.at_)|(go_at_call 80;(with_reducible refine (in10_86_any _ _ ?_).mono ?_);(focus (have:=SZ10.out;omega));rintro e w2 ⟨rfl,hb2⟩;replace wx:=wx.behind hb2;obtain ⟨y0,y1,y2,y3,y4,y5,y6,y7,y8,y9,y10,y11⟩:=row12 wx.at_)|(go_at_call 80;(with_reducible refine (in10_83_any _ _ ?_).mono ?_);(focus (have:=SZ10.out;omega));rintro e w2 ⟨rfl,hb2⟩;replace wx:=wx.behind hb2;obtain ⟨y0,y1,y2,y3,y4,y5,y6,y7,y8,y9,y10,y11⟩:=row12 wx.at_)|(go_at_call 81;(with_reducible refine (number8m_any _ _ B wb _ _ wx.wrt ?_).mono ?_);(focus ((first|omega|(simp only [List.length_append];omega)|(simp only [List.length_append,be_length];omega))));rintro e w2 ⟨rfl,v2,hr2,hs2⟩;replace wx:=wx.next hr2 hs2;obtain ⟨y0,y1,y2,y3,y4,y5,y6,y7,y8,y9,y10,y11⟩:=row12 wx.at_))
        go_returns
        exact ⟨rfl,_,by rw [HQ.out,HTK.out];have:=wx.wrt;first|exact this|(simp only [List.append_assoc] at this ⊢;exact this)|(simp only [List.append_nil] at this ⊢;exact this),wx.st⟩
      have f1:(ck==1)=false:=by simp [e1]
      by_cases e2:ck=2
      case pos=>
        subst e2
        have hTk:T=encS key++encV vv:=by rw [←HT.out];simp [encT,saysB,hasB]
        rw [hTk] at hQL
        have HTK:=Lib.hid hTk
        simp only [List.length_append] at hQL
        have HS:Hid (∀b:Nat,b≠46→hasB (says10B 2) b=hasB (saysB 2) b):=fun b hb=>says10_has _ b hb
        obtain ⟨SB,hSB⟩:∃SB,says10B 2=SB:=⟨_,rfl⟩
        have SZ10:Hid (SB.size≤2):=by
          unfold Hid;rw [←hSB];decide
        have s75:hasB SB 75=true:=by rw [←hSB,HS.out _ (by omega)];rfl
        have s73:hasB SB 73=false:=by rw [←hSB,HS.out _ (by omega)];rfl
        have s74:hasB SB 74=false:=by rw [←hSB,HS.out _ (by omega)];rfl
        have s78:hasB SB 78=false:=by rw [←hSB,HS.out _ (by omega)];rfl
        have s86:hasB SB 86=true:=by rw [←hSB,HS.out _ (by omega)];rfl
        have s83:hasB SB 83=false:=by rw [←hSB,HS.out _ (by omega)];rfl
        have HSB:=Lib.hid hSB
        clear hSB
        clear hTk
        go_wp2_with (first|(go_at_call 79;(with_reducible refine (says10_any _ _).mono ?_);rintro e w2 ⟨rfl,hb2⟩;rw [HSB.out];replace wx:=wx.behind hb2;obtain ⟨y0,y1,y2,y3,y4,y5,y6,y7,y8,y9,y10,y11⟩:=row12 wx.at_)|(go_at_call 80;(with_reducible refine (in10_75_any _ _ ?_).mono ?_);(focus (have:=SZ10.out;omega));rintro e w2 ⟨rfl,hb2⟩;replace wx:=wx.behind hb2;obtain ⟨y0,y1,y2,y3,y4,y5,y6,y7,y8,y9,y10,y11⟩:=row12 wx.at_)|(go_at_call 80;(with_reducible refine (in10_73_any _ _ ?_).mono ?_);(focus (have:=SZ10.out;omega));rintro e w2 ⟨rfl,hb2⟩;replace wx:=wx.behind hb2;obtain ⟨y0,y1,y2,y3,y4,y5,y6,y7,y8,y9,y10,y11⟩:=row12 wx.at_)|(go_at_call 80;(with_reducible refine (in10_74_any _ _ ?_).mono ?_);(focus (have:=SZ10.out;omega));rintro e w2 ⟨rfl,hb2⟩;replace wx:=wx.behind hb2;obtain ⟨y0,y1,y2,y3,y4,y5,y6,y7,y8,y9,y10,y11⟩:=row12 wx.at_)|(go_at_call 80;(with_reducible refine (in10_78_any _ _ ?_).mono ?_);(focus (have:=SZ10.out;omega));rintro e w2 ⟨rfl,hb2⟩;replace wx:=wx.behind hb2;obtain ⟨y0,y1,y2,y3,y4,y5,y6,y7,y8,y9,y10,y11⟩:=row12 wx.at_)|(go_at_call 80;(with_reducible refine (in10_86_any _ _ ?_).mono ?_);(focus (have:=SZ10.out;omega));rintro e w2 ⟨rfl,hb2⟩;replace wx:=wx.behind hb2;obtain ⟨y0,y1,y2,y3,y4,y5,y6,y7,y8,y9,y10,y11⟩:=row12 wx.at_)|(go_at_call 80;(with_reducible refine (in10_83_any _ _ ?_).mono ?_);(focus (have:=SZ10.out;omega));rintro e w2 ⟨rfl,hb2⟩;replace wx:=wx.behind hb2;obtain ⟨y0,y1,y2,y3,y4,y5,y6,y7,y8,y9,y10,y11⟩:=row12 wx.at_)|(go_at_call 105;(with_reducible refine (refText_any _ _ B wb _ _ wx.wrt ?_).mono ?_);(focus ((first|omega|(simp only [List.length_append];omega)|(simp only [List.length_append,be_length];omega))));rintro e w2 ⟨rfl,v2,hr2,hs2⟩;replace wx:=wx.next hr2 hs2;obtain ⟨y0,y1,y2,y3,y4,y5,y6,y7,y8,y9,y10,y11⟩:=row12 wx.at_)|(go_at_call 82;(with_reducible refine (refValueX_any vv vk vn vs vla vll vlc voa vol voc _ B wb _ _ wx.wrt (HV.out _ (H0.out.keeps wx.st)) ?_).mono ?_);(focus ((first|omega|(simp only [List.length_append];omega)|(simp only [List.length_append,be_length];omega))));rintro e w2 ⟨rfl,v2,hr2,hs2⟩;replace wx:=wx.next hr2 hs2;obtain ⟨y0,y1,y2,y3,y4,y5,y6,y7,y8,y9,y10,y11⟩:=row12 wx.at_))
        go_returns
        exact ⟨rfl,_,by rw [HQ.out,HTK.out];have:=wx.wrt;first|exact this|(simp only [List.append_assoc] at this ⊢;exact this)|(simp only [List.append_nil] at this ⊢;exact this),wx.st⟩
      have f2:(ck==2)=false:=by simp [e2]
      by_cases e3:ck=3
      case pos=>
        subst e3
        have hTk:T=encS key:=by rw [←HT.out];simp [encT,saysB,hasB]
        rw [hTk] at hQL
        have HTK:=Lib.hid hTk
        have HS:Hid (∀b:Nat,b≠46→hasB (says10B 3) b=hasB (saysB 3) b):=fun b hb=>says10_has _ b hb
        obtain ⟨SB,hSB⟩:∃SB,says10B 3=SB:=⟨_,rfl⟩
        have SZ10:Hid (SB.size≤2):=by
          unfold Hid;rw [←hSB];decide
        have s75:hasB SB 75=true:=by rw [←hSB,HS.out _ (by omega)];rfl
        have s73:hasB SB 73=false:=by rw [←hSB,HS.out _ (by omega)];rfl
        have s74:hasB SB 74=false:=by rw [←hSB,HS.out _ (by omega)];rfl
        have s78:hasB SB 78=false:=by rw [←hSB,HS.out _ (by omega)];rfl
        have s86:hasB SB 86=false:=by rw [←hSB,HS.out _ (by omega)];rfl
        have s83:hasB SB 83=false:=by rw [←hSB,HS.out _ (by omega)];rfl
        have HSB:=Lib.hid hSB
        clear hSB
        clear hTk
        go_wp2_with (first|(go_at_call 79;(with_reducible refine (says10_any _ _).mono ?_);rintro e w2 ⟨rfl,hb2⟩;rw [HSB.out];replace wx:=wx.behind hb2;obtain ⟨y0,y1,y2,y3,y4,y5,y6,y7,y8,y9,y10,y11⟩:=row12 wx.at_)|(go_at_call 80;(with_reducible refine (in10_75_any _ _ ?_).mono ?_);(focus (have:=SZ10.out;omega));rintro e w2 ⟨rfl,hb2⟩;replace wx:=wx.behind hb2;obtain ⟨y0,y1,y2,y3,y4,y5,y6,y7,y8,y9,y10,y11⟩:=row12 wx.at_)|(go_at_call 80;(with_reducible refine (in10_73_any _ _ ?_).mono ?_);(focus (have:=SZ10.out;omega));rintro e w2 ⟨rfl,hb2⟩;replace wx:=wx.behind hb2;obtain ⟨y0,y1,y2,y3,y4,y5,y6,y7,y8,y9,y10,y11⟩:=row12 wx.at_)|(go_at_call 80;(with_reducible refine (in10_74_any _ _ ?_).mono ?_);(focus (have:=SZ10.out;omega));rintro e w2 ⟨rfl,hb2⟩;replace wx:=wx.behind hb2;obtain ⟨y0,y1,y2,y3,y4,y5,y6,y7,y8,y9,y10,y11⟩:=row12 wx.at_)|(go_at_call 80;(with_reducible refine (in10_78_any _ _ ?_).mono ?_);(focus (have:=SZ10.out;omega));rintro e w2 ⟨rfl,hb2⟩;replace wx:=wx.behind hb2;obtain ⟨y0,y1,y2,y3,y4,y5,y6,y7,y8,y9,y10,y11⟩:=row12 wx.at_)|(go_at_call 80;(with_reducible refine (in10_86_any _ _ ?_).mono ?_);(focus (have:=SZ10.out;omega));rintro e w2 ⟨rfl,hb2⟩;replace wx:=wx.behind hb2;obtain ⟨y0,y1,y2,y3,y4,y5,y6,y7,y8,y9,y10,y11⟩:=row12 wx.at_)|(go_at_call 80;(with_reducible refine (in10_83_any _ _ ?_).mono ?_);(focus (have:=SZ10.out;omega));rintro e w2 ⟨rfl,hb2⟩;replace wx:=wx.behind hb2;obtain ⟨y0,y1,y2,y3,y4,y5,y6,y7,y8,y9,y10,y11⟩:=row12 wx.at_)|(go_at_call 105;(with_reducible refine (refText_any _ _ B wb _ _ wx.wrt ?_).mono ?_);(focus ((first|omega|(simp only [List.length_append];omega)|(simp only [List.length_append,be_length];omega))));rintro e w2 ⟨rfl,v2,hr2,hs2⟩;replace wx:=wx.next hr2 hs2;obtain ⟨y0,y1,y2,y3,y4,y5,y6,y7,y8,y9,y10,y11⟩:=row12 wx.at_))
        go_returns
        exact ⟨rfl,_,by rw [HQ.out,HTK.out];have:=wx.wrt;first|exact this|(simp only [List.append_assoc] at this ⊢;exact this)|(simp only [List.append_nil] at this ⊢;exact this),wx.st⟩
      have f3:(ck==3)=false:=by simp [e3]
      by_cases e4:ck=4
      case pos=>
        subst e4
        have hTk:T=be (i % 18446744073709551616).toNat 8++encV vv:=by rw [←HT.out];simp [encT,saysB,hasB]
        rw [hTk] at hQL
        have HTK:=Lib.hid hTk
        simp only [List.length_append,be_length] at hQL
        have HS:Hid (∀b:Nat,b≠46→hasB (says10B 4) b=hasB (saysB 4) b):=fun b hb=>says10_has _ b hb
        obtain ⟨SB,hSB⟩:∃SB,says10B 4=SB:=⟨_,rfl⟩
        have SZ10:Hid (SB.size≤2):=by
          unfold Hid;rw [←hSB];decide
        have s75:hasB SB 75=false:=by rw [←hSB,HS.out _ (by omega)];rfl
        have s73:hasB SB 73=true:=by rw [←hSB,HS.out _ (by omega)];rfl
        have s74:hasB SB 74=false:=by rw [←hSB,HS.out _ (by omega)];rfl
        have s78:hasB SB 78=false:=by rw [←hSB,HS.out _ (by omega)];rfl
        have s86:hasB SB 86=true:=by rw [←hSB,HS.out _ (by omega)];rfl
        have s83:hasB SB 83=false:=by rw [←hSB,HS.out _ (by omega)];rfl
        have HSB:=Lib.hid hSB
        clear hSB
        clear hTk
        go_wp2_with (first|(go_at_call 79;(with_reducible refine (says10_any _ _).mono ?_);rintro e w2 ⟨rfl,hb2⟩;rw [HSB.out];replace wx:=wx.behind hb2;obtain ⟨y0,y1,y2,y3,y4,y5,y6,y7,y8,y9,y10,y11⟩:=row12 wx.at_)|(go_at_call 80;(with_reducible refine (in10_75_any _ _ ?_).mono ?_);(focus (have:=SZ10.out;omega));rintro e w2 ⟨rfl,hb2⟩;replace wx:=wx.behind hb2;obtain ⟨y0,y1,y2,y3,y4,y5,y6,y7,y8,y9,y10,y11⟩:=row12 wx.at_)|(go_at_call 80;(with_reducible refine (in10_73_any _ _ ?_).mono ?_);(focus (have:=SZ10.out;omega));rintro e w2 ⟨rfl,hb2⟩;replace wx:=wx.behind hb2;obtain ⟨y0,y1,y2,y3,y4,y5,y6,y7,y8,y9,y10,y11⟩:=row12 wx.at_)|(go_at_call 80;(with_reducible refine (in10_74_any _ _ ?_).mono ?_);(focus (have:=SZ10.out;omega));rintro e w2 ⟨rfl,hb2⟩;replace wx:=wx.behind hb2;obtain ⟨y0,y1,y2,y3,y4,y5,y6,y7,y8,y9,y10,y11⟩:=row12 wx.at_)|(go_at_call 80;(with_reducible refine (in10_78_any _ _ ?_).mono ?_);(focus (have:=SZ10.out;omega));rintro e w2 ⟨rfl,hb2⟩;replace wx:=wx.behind hb2;obtain ⟨y0,y1,y2,y3,y4,y5,y6,y7,y8,y9,y10,y11⟩:=row12 wx.at_)|(go_at_call 80;(with_reducible refine (in10_86_any _ _ ?_).mono ?_);(focus (have:=SZ10.out;omega));rintro e w2 ⟨rfl,hb2⟩;replace wx:=wx.behind hb2;obtain ⟨y0,y1,y2,y3,y4,y5,y6,y7,y8,y9,y10,y11⟩:=row12 wx.at_)|(go_at_call 80;(with_reducible refine (in10_83_any _ _ ?_).mono ?_);(focus (have:=SZ10.out;omega));rintro e w2 ⟨rfl,hb2⟩;replace wx:=wx.behind hb2;obtain ⟨y0,y1,y2,y3,y4,y5,y6,y7,y8,y9,y10,y11⟩:=row12 wx.at_)|(go_at_call 81;(with_reducible refine (number8m_any _ _ B wb _ _ wx.wrt ?_).mono ?_);(focus ((first|omega|(simp only [List.length_append];omega)|(simp only [List.length_append,be_length];omega))));rintro e w2 ⟨rfl,v2,hr2,hs2⟩;replace wx:=wx.next hr2 hs2;obtain ⟨y0,y1,y2,y3,y4,y5,y6,y7,y8,y9,y10,y11⟩:=row12 wx.at_)|(go_at_call 82;(with_reducible refine (refValueX_any vv vk vn vs vla vll vlc voa vol voc _ B wb _ _ wx.wrt (HV.out _ (H0.out.keeps wx.st)) ?_).mono ?_);(focus ((first|omega|(simp only [List.length_append];omega)|(simp only [List.length_append,be_length];omega))));rintro e w2 ⟨rfl,v2,hr2,hs2⟩;replace wx:=wx.next hr2 hs2;obtain ⟨y0,y1,y2,y3,y4,y5,y6,y7,y8,y9,y10,y11⟩:=row12 wx.at_))
        go_returns
        exact ⟨rfl,_,by rw [HQ.out,HTK.out];have:=wx.wrt;first|exact this|(simp only [List.append_assoc] at this ⊢;exact this)|(simp only [List.append_nil] at this ⊢;exact this),wx.st⟩
      have f4:(ck==4)=false:=by simp [e4]
      by_cases e5:ck=5
      case pos=>
        subst e5
        have hTk:T=be (i % 18446744073709551616).toNat 8:=by rw [←HT.out];simp [encT,saysB,hasB]
        rw [hTk] at hQL
        have HTK:=Lib.hid hTk
        simp only [be_length] at hQL
        have HS:Hid (∀b:Nat,b≠46→hasB (says10B 5) b=hasB (saysB 5) b):=fun b hb=>says10_has _ b hb
        obtain ⟨SB,hSB⟩:∃SB,says10B 5=SB:=⟨_,rfl⟩
        have SZ10:Hid (SB.size≤2):=by
          unfold Hid;rw [←hSB];decide
        have s75:hasB SB 75=false:=by rw [←hSB,HS.out _ (by omega)];rfl
        have s73:hasB SB 73=true:=by rw [←hSB,HS.out _ (by omega)];rfl
        have s74:hasB SB 74=false:=by rw [←hSB,HS.out _ (by omega)];rfl
        have s78:hasB SB 78=false:=by rw [←hSB,HS.out _ (by omega)];rfl
        have s86:hasB SB 86=false:=by rw [←hSB,HS.out _ (by omega)];rfl
        have s83:hasB SB 83=false:=by rw [←hSB,HS.out _ (by omega)];rfl
        have HSB:=Lib.hid hSB
        clear hSB
        clear hTk
        go_wp2_with (first|(go_at_call 79;(with_reducible refine (says10_any _ _).mono ?_);rintro e w2 ⟨rfl,hb2⟩;rw [HSB.out];replace wx:=wx.behind hb2;obtain ⟨y0,y1,y2,y3,y4,y5,y6,y7,y8,y9,y10,y11⟩:=row12 wx.at_)|(go_at_call 80;(with_reducible refine (in10_75_any _ _ ?_).mono ?_);(focus (have:=SZ10.out;omega));rintro e w2 ⟨rfl,hb2⟩;replace wx:=wx.behind hb2;obtain ⟨y0,y1,y2,y3,y4,y5,y6,y7,y8,y9,y10,y11⟩:=row12 wx.at_)|(go_at_call 80;(with_reducible refine (in10_73_any _ _ ?_).mono ?_);(focus (have:=SZ10.out;omega));rintro e w2 ⟨rfl,hb2⟩;replace wx:=wx.behind hb2;obtain ⟨y0,y1,y2,y3,y4,y5,y6,y7,y8,y9,y10,y11⟩:=row12 wx.at_)|(go_at_call 80;(with_reducible refine (in10_74_any _ _ ?_).mono ?_);(focus (have:=SZ10.out;omega));rintro e w2 ⟨rfl,hb2⟩;replace wx:=wx.behind hb2;obtain ⟨y0,y1,y2,y3,y4,y5,y6,y7,y8,y9,y10,y11⟩:=row12 wx.at_)|(go_at_call 80;(with_reducible refine (in10_78_any _ _ ?_).mono ?_);(focus (have:=SZ10.out;omega));rintro e w2 ⟨rfl,hb2⟩;replace wx:=wx.behind hb2;obtain ⟨y0,y1,y2,y3,y4,y5,y6,y7,y8,y9,y10,y11⟩:=row12 wx.at_)|(go_at_call 80;(with_reducible refine (in10_86_any _ _ ?_).mono ?_);(focus (have:=SZ10.out;omega));rintro e w2 ⟨rfl,hb2⟩;replace wx:=wx.behind hb2;obtain ⟨y0,y1,y2,y3,y4,y5,y6,y7,y8,y9,y10,y11⟩:=row12 wx.at_)|(go_at_call 80;(with_reducible refine (in10_83_any _ _ ?_).mono ?_);(focus (have:=SZ10.out;omega));rintro e w2 ⟨rfl,hb2⟩;replace wx:=wx.behind hb2;obtain ⟨y0,y1,y2,y3,y4,y5,y6,y7,y8,y9,y10,y11⟩:=row12 wx.at_)|(go_at_call 81;(with_reducible refine (number8m_any _ _ B wb _ _ wx.wrt ?_).mono ?_);(focus ((first|omega|(simp only [List.length_append];omega)|(simp only [List.length_append,be_length];omega))));rintro e w2 ⟨rfl,v2,hr2,hs2⟩;replace wx:=wx.next hr2 hs2;obtain ⟨y0,y1,y2,y3,y4,y5,y6,y7,y8,y9,y10,y11⟩:=row12 wx.at_))
        go_returns
        exact ⟨rfl,_,by rw [HQ.out,HTK.out];have:=wx.wrt;first|exact this|(simp only [List.append_assoc] at this ⊢;exact this)|(simp only [List.append_nil] at this ⊢;exact this),wx.st⟩
      have f5:(ck==5)=false:=by simp [e5]
      by_cases e6:ck=6
      case pos=>
        subst e6
        have hTk:T=be (i % 18446744073709551616).toNat 8++encV vv:=by rw [←HT.out];simp [encT,saysB,hasB]
        rw [hTk] at hQL
        have HTK:=Lib.hid hTk
        simp only [List.length_append,be_length] at hQL
        have HS:Hid (∀b:Nat,b≠46→hasB (says10B 6) b=hasB (saysB 6) b):=fun b hb=>says10_has _ b hb
        obtain ⟨SB,hSB⟩:∃SB,says10B 6=SB:=⟨_,rfl⟩
        have SZ10:Hid (SB.size≤2):=by
          unfold Hid;rw [←hSB];decide
        have s75:hasB SB 75=false:=by rw [←hSB,HS.out _ (by omega)];rfl
        have s73:hasB SB 73=true:=by rw [←hSB,HS.out _ (by omega)];rfl
        have s74:hasB SB 74=false:=by rw [←hSB,HS.out _ (by omega)];rfl
        have s78:hasB SB 78=false:=by rw [←hSB,HS.out _ (by omega)];rfl
        have s86:hasB SB 86=true:=by rw [←hSB,HS.out _ (by omega)];rfl
        have s83:hasB SB 83=false:=by rw [←hSB,HS.out _ (by omega)];rfl
        have HSB:=Lib.hid hSB
        clear hSB
        clear hTk
        go_wp2_with (first|(go_at_call 79;(with_reducible refine (says10_any _ _).mono ?_);rintro e w2 ⟨rfl,hb2⟩;rw [HSB.out];replace wx:=wx.behind hb2;obtain ⟨y0,y1,y2,y3,y4,y5,y6,y7,y8,y9,y10,y11⟩:=row12 wx.at_)|(go_at_call 80;(with_reducible refine (in10_75_any _ _ ?_).mono ?_);(focus (have:=SZ10.out;omega));rintro e w2 ⟨rfl,hb2⟩;replace wx:=wx.behind hb2;obtain ⟨y0,y1,y2,y3,y4,y5,y6,y7,y8,y9,y10,y11⟩:=row12 wx.at_)|(go_at_call 80;(with_reducible refine (in10_73_any _ _ ?_).mono ?_);(focus (have:=SZ10.out;omega));rintro e w2 ⟨rfl,hb2⟩;replace wx:=wx.behind hb2;obtain ⟨y0,y1,y2,y3,y4,y5,y6,y7,y8,y9,y10,y11⟩:=row12 wx.at_)|(go_at_call 80;(with_reducible refine (in10_74_any _ _ ?_).mono ?_);(focus (have:=SZ10.out;omega));rintro e w2 ⟨rfl,hb2⟩;replace wx:=wx.behind hb2;obtain ⟨y0,y1,y2,y3,y4,y5,y6,y7,y8,y9,y10,y11⟩:=row12 wx.at_)|(go_at_call 80;(with_reducible refine (in10_78_any _ _ ?_).mono ?_);(focus (have:=SZ10.out;omega));rintro e w2 ⟨rfl,hb2⟩;replace wx:=wx.behind hb2;obtain ⟨y0,y1,y2,y3,y4,y5,y6,y7,y8,y9,y10,y11⟩:=row12 wx.at_)|(go_at_call 80;(with_reducible refine (in10_86_any _ _ ?_).mono ?_);(focus (have:=SZ10.out;omega));rintro e w2 ⟨rfl,hb2⟩;replace wx:=wx.behind hb2;obtain ⟨y0,y1,y2,y3,y4,y5,y6,y7,y8,y9,y10,y11⟩:=row12 wx.at_)|(go_at_call 80;(with_reducible refine (in10_83_any _ _ ?_).mono ?_);(focus (have:=SZ10.out;omega));rintro e w2 ⟨rfl,hb2⟩;replace wx:=wx.behind hb2;obtain ⟨y0,y1,y2,y3,y4,y5,y6,y7,y8,y9,y10,y11⟩:=row12 wx.at_)|(go_at_call 81;(with_reducible refine (number8m_any _ _ B wb _ _ wx.wrt ?_).mono ?_);(focus ((first|omega|(simp only [List.length_append];omega)|(simp only [List.length_append,be_length];omega))));rintro e w2 ⟨rfl,v2,hr2,hs2⟩;replace wx:=wx.next hr2 hs2;obtain ⟨y0,y1,y2,y3,y4,y5,y6,y7,y8,y9,y10,y11⟩:=row12 wx.at_)|(go_at_call 82;(with_reducible refine (refValueX_any vv vk vn vs vla vll vlc voa vol voc _ B wb _ _ wx.wrt (HV.out _ (H0.out.keeps wx.st)) ?_).mono ?_);(focus ((first|omega|(simp only [List.length_append];omega)|(simp only [List.length_append,be_length];omega))));rintro e w2 ⟨rfl,v2,hr2,hs2⟩;replace wx:=wx.next hr2 hs2;obtain ⟨y0,y1,y2,y3,y4,y5,y6,y7,y8,y9,y10,y11⟩:=row12 wx.at_))
        go_returns
        exact ⟨rfl,_,by rw [HQ.out,HTK.out];have:=wx.wrt;first|exact this|(simp only [List.append_assoc] at this ⊢;exact this)|(simp only [List.append_nil] at this ⊢;exact this),wx.st⟩
      have f6:(ck==6)=false:=by simp [e6]
      by_cases e7:ck=7
      case pos=>
        subst e7
        have hTk:T=be (i % 18446744073709551616).toNat 8++be (j % 18446744073709551616).toNat 8:=by rw [←HT.out];simp [encT,saysB,hasB]
        rw [hTk] at hQL
        have HTK:=Lib.hid hTk
        simp only [List.length_append,be_length] at hQL
        have HS:Hid (∀b:Nat,b≠46→hasB (says10B 7) b=hasB (saysB 7) b):=fun b hb=>says10_has _ b hb
        obtain ⟨SB,hSB⟩:∃SB,says10B 7=SB:=⟨_,rfl⟩
        have SZ10:Hid (SB.size≤2):=by
          unfold Hid;rw [←hSB];decide
        have s75:hasB SB 75=false:=by rw [←hSB,HS.out _ (by omega)];rfl
        have s73:hasB SB 73=true:=by rw [←hSB,HS.out _ (by omega)];rfl
        have s74:hasB SB 74=true:=by rw [←hSB,HS.out _ (by omega)];rfl
        have s78:hasB SB 78=false:=by rw [←hSB,HS.out _ (by omega)];rfl
        have s86:hasB SB 86=false:=by rw [←hSB,HS.out _ (by omega)];rfl
        have s83:hasB SB 83=false:=by rw [←hSB,HS.out _ (by omega)];rfl
        have HSB:=Lib.hid hSB
        clear hSB
        clear hTk
        go_wp2_with (first|(go_at_call 79;(with_reducible refine (says10_any _ _).mono ?_);rintro e w2 ⟨rfl,hb2⟩;rw [HSB.out];replace wx:=wx.behind hb2;obtain ⟨y0,y1,y2,y3,y4,y5,y6,y7,y8,y9,y10,y11⟩:=row12 wx.at_)|(go_at_call 80;(with_reducible refine (in10_75_any _ _ ?_).mono ?_);(focus (have:=SZ10.out;omega));rintro e w2 ⟨rfl,hb2⟩;replace wx:=wx.behind hb2;obtain ⟨y0,y1,y2,y3,y4,y5,y6,y7,y8,y9,y10,y11⟩:=row12 wx.at_)|(go_at_call 80;(with_reducible refine (in10_73_any _ _ ?_).mono ?_);(focus (have:=SZ10.out;omega));rintro e w2 ⟨rfl,hb2⟩;replace wx:=wx.behind hb2;obtain ⟨y0,y1,y2,y3,y4,y5,y6,y7,y8,y9,y10,y11⟩:=row12 wx.at_)|(go_at_call 80;(with_reducible refine (in10_74_any _ _ ?_).mono ?_);(focus (have:=SZ10.out;omega));rintro e w2 ⟨rfl,hb2⟩;replace wx:=wx.behind hb2;obtain ⟨y0,y1,y2,y3,y4,y5,y6,y7,y8,y9,y10,y11⟩:=row12 wx.at_)|(go_at_call 80;(with_reducible refine (in10_78_any _ _ ?_).mono ?_);(focus (have:=SZ10.out;omega));rintro e w2 ⟨rfl,hb2⟩;replace wx:=wx.behind hb2;obtain ⟨y0,y1,y2,y3,y4,y5,y6,y7,y8,y9,y10,y11⟩:=row12 wx.at_)|(go_at_call 80;(with_reducible refine (in10_86_any _ _ ?_).mono ?_);(focus (have:=SZ10.out;omega));rintro e w2 ⟨rfl,hb2⟩;replace wx:=wx.behind hb2;obtain ⟨y0,y1,y2,y3,y4,y5,y6,y7,y8,y9,y10,y11⟩:=row12 wx.at_)|(go_at_call 80;(with_reducible refine (in10_83_any _ _ ?_).mono ?_);(focus (have:=SZ10.out;omega));rintro e w2 ⟨rfl,hb2⟩;replace wx:=wx.behind hb2;obtain ⟨y0,y1,y2,y3,y4,y5,y6,y7,y8,y9,y10,y11⟩:=row12 wx.at_)|(go_at_call 81;(with_reducible refine (number8m_any _ _ B wb _ _ wx.wrt ?_).mono ?_);(focus ((first|omega|(simp only [List.length_append];omega)|(simp only [List.length_append,be_length];omega))));rintro e w2 ⟨rfl,v2,hr2,hs2⟩;replace wx:=wx.next hr2 hs2;obtain ⟨y0,y1,y2,y3,y4,y5,y6,y7,y8,y9,y10,y11⟩:=row12 wx.at_))
        go_returns
        exact ⟨rfl,_,by rw [HQ.out,HTK.out];have:=wx.wrt;first|exact this|(simp only [List.append_assoc] at this ⊢;exact this)|(simp only [List.append_nil] at this ⊢;exact this),wx.st⟩
      have f7:(ck==7)=false:=by simp [e7]
      by_cases e8:ck=8
      case pos=>
        subst e8
        have hTk:T=be (i % 18446744073709551616).toNat 8++encS s:=by rw [←HT.out];simp [encT,saysB,hasB]
        rw [hTk] at hQL
        have HTK:=Lib.hid hTk
        simp only [List.length_append,be_length] at hQL
        have HS:Hid (∀b:Nat,b≠46→hasB (says10B 8) b=hasB (saysB 8) b):=fun b hb=>says10_has _ b hb
        obtain ⟨SB,hSB⟩:∃SB,says10B 8=SB:=⟨_,rfl⟩
        have SZ10:Hid (SB.size≤2):=by
          unfold Hid;rw [←hSB];decide
        have s75:hasB SB 75=false:=by rw [←hSB,HS.out _ (by omega)];rfl
        have s73:hasB SB 73=true:=by rw [←hSB,HS.out _ (by omega)];rfl
        have s74:hasB SB 74=false:=by rw [←hSB,HS.out _ (by omega)];rfl
        have s78:hasB SB 78=false:=by rw [←hSB,HS.out _ (by omega)];rfl
        have s86:hasB SB 86=false:=by rw [←hSB,HS.out _ (by omega)];rfl
        have s83:hasB SB 83=true:=by rw [←hSB,HS.out _ (by omega)];rfl
        have HSB:=Lib.hid hSB
        clear hSB
        clear hTk
        go_wp2_with (first|(go_at_call 79;(with_reducible refine (says10_any _ _).mono ?_);rintro e w2 ⟨rfl,hb2⟩;rw [HSB.out];replace wx:=wx.behind hb2;obtain ⟨y0,y1,y2,y3,y4,y5,y6,y7,y8,y9,y10,y11⟩:=row12 wx.at_)|(go_at_call 80;(with_reducible refine (in10_75_any _ _ ?_).mono ?_);(focus (have:=SZ10.out;omega));rintro e w2 ⟨rfl,hb2⟩;replace wx:=wx.behind hb2;obtain ⟨y0,y1,y2,y3,y4,y5,y6,y7,y8,y9,y10,y11⟩:=row12 wx.at_)|(go_at_call 80;(with_reducible refine (in10_73_any _ _ ?_).mono ?_);(focus (have:=SZ10.out;omega));rintro e w2 ⟨rfl,hb2⟩;replace wx:=wx.behind hb2;obtain ⟨y0,y1,y2,y3,y4,y5,y6,y7,y8,y9,y10,y11⟩:=row12 wx.at_)|(go_at_call 80;(with_reducible refine (in10_74_any _ _ ?_).mono ?_);(focus (have:=SZ10.out;omega));rintro e w2 ⟨rfl,hb2⟩;replace wx:=wx.behind hb2;obtain ⟨y0,y1,y2,y3,y4,y5,y6,y7,y8,y9,y10,y11⟩:=row12 wx.at_)|(go_at_call 80;(with_reducible refine (in10_78_any _ _ ?_).mono ?_);(focus (have:=SZ10.out;omega));rintro e w2 ⟨rfl,hb2⟩;replace wx:=wx.behind hb2;obtain ⟨y0,y1,y2,y3,y4,y5,y6,y7,y8,y9,y10,y11⟩:=row12 wx.at_)|(go_at_call 80;(with_reducible refine (in10_86_any _ _ ?_).mono ?_);(focus (have:=SZ10.out;omega));rintro e w2 ⟨rfl,hb2⟩;replace wx:=wx.behind hb2;obtain ⟨y0,y1,y2,y3,y4,y5,y6,y7,y8,y9,y10,y11⟩:=row12 wx.at_)|(go_at_call 80;(with_reducible refine (in10_83_any _ _ ?_).mono ?_);(focus (have:=SZ10.out;omega));rintro e w2 ⟨rfl,hb2⟩;replace wx:=wx.behind hb2;obtain ⟨y0,y1,y2,y3,y4,y5,y6,y7,y8,y9,y10,y11⟩:=row12 wx.at_)|(go_at_call 81;(with_reducible refine (number8m_any _ _ B wb _ _ wx.wrt ?_).mono ?_);(focus ((first|omega|(simp only [List.length_append];omega)|(simp only [List.length_append,be_length];omega))));rintro e w2 ⟨rfl,v2,hr2,hs2⟩;replace wx:=wx.next hr2 hs2;obtain ⟨y0,y1,y2,y3,y4,y5,y6,y7,y8,y9,y10,y11⟩:=row12 wx.at_)|(go_at_call 105;(with_reducible refine (refText_any _ _ B wb _ _ wx.wrt ?_).mono ?_);(focus ((first|omega|(simp only [List.length_append];omega)|(simp only [List.length_append,be_length];omega))));rintro e w2 ⟨rfl,v2,hr2,hs2⟩;replace wx:=wx.next hr2 hs2;obtain ⟨y0,y1,y2,y3,y4,y5,y6,y7,y8,y9,y10,y11⟩:=row12 wx.at_))
        go_returns
        exact ⟨rfl,_,by rw [HQ.out,HTK.out];have:=wx.wrt;first|exact this|(simp only [List.append_assoc] at this ⊢;exact this)|(simp only [List.append_nil] at this ⊢;exact this),wx.st⟩
      have f8:(ck==8)=false:=by simp [e8]
      by_cases e9:ck=9
      case pos=>
        subst e9
        have hTk:T=be (i % 18446744073709551616).toNat 8++be (n % 18446744073709551616).toNat 8:=by rw [←HT.out];simp [encT,saysB,hasB]
        rw [hTk] at hQL
        have HTK:=Lib.hid hTk
        simp only [List.length_append,be_length] at hQL
        have HS:Hid (∀b:Nat,b≠46→hasB (says10B 9) b=hasB (saysB 9) b):=fun b hb=>says10_has _ b hb
        obtain ⟨SB,hSB⟩:∃SB,says10B 9=SB:=⟨_,rfl⟩
        have SZ10:Hid (SB.size≤2):=by
          unfold Hid;rw [←hSB];decide
        have s75:hasB SB 75=false:=by rw [←hSB,HS.out _ (by omega)];rfl
        have s73:hasB SB 73=true:=by rw [←hSB,HS.out _ (by omega)];rfl
        have s74:hasB SB 74=false:=by rw [←hSB,HS.out _ (by omega)];rfl
        have s78:hasB SB 78=true:=by rw [←hSB,HS.out _ (by omega)];rfl
        have s86:hasB SB 86=false:=by rw [←hSB,HS.out _ (by omega)];rfl
        have s83:hasB SB 83=false:=by rw [←hSB,HS.out _ (by omega)];rfl
        have HSB:=Lib.hid hSB
        clear hSB
        clear hTk
        go_wp2_with (first|(go_at_call 79;(with_reducible refine (says10_any _ _).mono ?_);rintro e w2 ⟨rfl,hb2⟩;rw [HSB.out];replace wx:=wx.behind hb2;obtain ⟨y0,y1,y2,y3,y4,y5,y6,y7,y8,y9,y10,y11⟩:=row12 wx.at_)|(go_at_call 80;(with_reducible refine (in10_75_any _ _ ?_).mono ?_);(focus (have:=SZ10.out;omega));rintro e w2 ⟨rfl,hb2⟩;replace wx:=wx.behind hb2;obtain ⟨y0,y1,y2,y3,y4,y5,y6,y7,y8,y9,y10,y11⟩:=row12 wx.at_)|(go_at_call 80;(with_reducible refine (in10_73_any _ _ ?_).mono ?_);(focus (have:=SZ10.out;omega));rintro e w2 ⟨rfl,hb2⟩;replace wx:=wx.behind hb2;obtain ⟨y0,y1,y2,y3,y4,y5,y6,y7,y8,y9,y10,y11⟩:=row12 wx.at_)|(go_at_call 80;(with_reducible refine (in10_74_any _ _ ?_).mono ?_);(focus (have:=SZ10.out;omega));rintro e w2 ⟨rfl,hb2⟩;replace wx:=wx.behind hb2;obtain ⟨y0,y1,y2,y3,y4,y5,y6,y7,y8,y9,y10,y11⟩:=row12 wx.at_)|(go_at_call 80;(with_reducible refine (in10_78_any _ _ ?_).mono ?_);(focus (have:=SZ10.out;omega));rintro e w2 ⟨rfl,hb2⟩;replace wx:=wx.behind hb2;obtain ⟨y0,y1,y2,y3,y4,y5,y6,y7,y8,y9,y10,y11⟩:=row12 wx.at_)|(go_at_call 80;(with_reducible refine (in10_86_any _ _ ?_).mono ?_);(focus (have:=SZ10.out;omega));rintro e w2 ⟨rfl,hb2⟩;replace wx:=wx.behind hb2;obtain ⟨y0,y1,y2,y3,y4,y5,y6,y7,y8,y9,y10,y11⟩:=row12 wx.at_)|(go_at_call 80;(with_reducible refine (in10_83_any _ _ ?_).mono ?_);(focus (have:=SZ10.out;omega));rintro e w2 ⟨rfl,hb2⟩;replace wx:=wx.behind hb2;obtain ⟨y0,y1,y2,y3,y4,y5,y6,y7,y8,y9,y10,y11⟩:=row12 wx.at_)|(go_at_call 81;(with_reducible refine (number8m_any _ _ B wb _ _ wx.wrt ?_).mono ?_);(focus ((first|omega|(simp only [List.length_append];omega)|(simp only [List.length_append,be_length];omega))));rintro e w2 ⟨rfl,v2,hr2,hs2⟩;replace wx:=wx.next hr2 hs2;obtain ⟨y0,y1,y2,y3,y4,y5,y6,y7,y8,y9,y10,y11⟩:=row12 wx.at_))
        go_returns
        exact ⟨rfl,_,by rw [HQ.out,HTK.out];have:=wx.wrt;first|exact this|(simp only [List.append_assoc] at this ⊢;exact this)|(simp only [List.append_nil] at this ⊢;exact this),wx.st⟩
      have f9:(ck==9)=false:=by simp [e9]
      have hTk:T= [] :=by rw [←HT.out];simp [encT,saysB,hasB,e1,e2,e3,e4,e5,e6,e7,e8,e9]
      rw [hTk] at hQL
      have HTK:=Lib.hid hTk
      simp only [List.length_nil] at hQL
      have HS:Hid (∀b:Nat,b≠46→hasB (says10B ck) b=hasB (saysB ck) b):=fun b hb=>says10_has _ b hb
      obtain ⟨SB,hSB⟩:∃SB,says10B ck=SB:=⟨_,rfl⟩
      have SZ10:Hid (SB.size≤2):=by
        unfold Hid;rw [←hSB];unfold says10B;split
        · decide
        · simp [saysB,e1,e2,e3,e4,e5,e6,e7,e8,e9];decide
      have s75:hasB SB 75=false:=by rw [←hSB,HS.out _ (by omega)];simp [saysB,hasB,e1,e2,e3,e4,e5,e6,e7,e8,e9]
      have s73:hasB SB 73=false:=by rw [←hSB,HS.out _ (by omega)];simp [saysB,hasB,e1,e2,e3,e4,e5,e6,e7,e8,e9]
      have s74:hasB SB 74=false:=by rw [←hSB,HS.out _ (by omega)];simp [saysB,hasB,e1,e2,e3,e4,e5,e6,e7,e8,e9]
      have s78:hasB SB 78=false:=by rw [←hSB,HS.out _ (by omega)];simp [saysB,hasB,e1,e2,e3,e4,e5,e6,e7,e8,e9]
      have s86:hasB SB 86=false:=by rw [←hSB,HS.out _ (by omega)];simp [saysB,hasB,e1,e2,e3,e4,e5,e6,e7,e8,e9]
      have s83:hasB SB 83=false:=by rw [←hSB,HS.out _ (by omega)];simp [saysB,hasB,e1,e2,e3,e4,e5,e6,e7,e8,e9]
      have HSB:=Lib.hid hSB
      clear hSB
      clear e1 e2 e3 e4 e5 e6 e7 e8 e9
      clear hTk
      go_wp2_with (first|(go_at_call 79;(with_reducible refine (says10_any _ _).mono ?_);rintro e w2 ⟨rfl,hb2⟩;rw [HSB.out];replace wx:=wx.behind hb2;obtain ⟨y0,y1,y2,y3,y4,y5,y6,y7,y8,y9,y10,y11⟩:=row12 wx.at_)|(go_at_call 80;(with_reducible refine (in10_75_any _ _ ?_).mono ?_);(focus (have:=SZ10.out;omega));rintro e w2 ⟨rfl,hb2⟩;replace wx:=wx.behind hb2;obtain ⟨y0,y1,y2,y3,y4,y5,y6,y7,y8,y9,y10,y11⟩:=row12 wx.at_)|(go_at_call 80;(with_reducible refine (in10_73_any _ _ ?_).mono ?_);(focus (have:=SZ10.out;omega));rintro e w2 ⟨rfl,hb2⟩;replace wx:=wx.behind hb2;obtain ⟨y0,y1,y2,y3,y4,y5,y6,y7,y8,y9,y10,y11⟩:=row12 wx.at_)|(go_at_call 80;(with_reducible refine (in10_74_any _ _ ?_).mono ?_);(focus (have:=SZ10.out;omega));rintro e w2 ⟨rfl,hb2⟩;replace wx:=wx.behind hb2;obtain ⟨y0,y1,y2,y3,y4,y5,y6,y7,y8,y9,y10,y11⟩:=row12 wx.at_)|(go_at_call 80;(with_reducible refine (in10_78_any _ _ ?_).mono ?_);(focus (have:=SZ10.out;omega));rintro e w2 ⟨rfl,hb2⟩;replace wx:=wx.behind hb2;obtain ⟨y0,y1,y2,y3,y4,y5,y6,y7,y8,y9,y10,y11⟩:=row12 wx.at_)|(go_at_call 80;(with_reducible refine (in10_86_any _ _ ?_).mono ?_);(focus (have:=SZ10.out;omega));rintro e w2 ⟨rfl,hb2⟩;replace wx:=wx.behind hb2;obtain ⟨y0,y1,y2,y3,y4,y5,y6,y7,y8,y9,y10,y11⟩:=row12 wx.at_)|(go_at_call 80;(with_reducible refine (in10_83_any _ _ ?_).mono ?_);(focus (have:=SZ10.out;omega));rintro e w2 ⟨rfl,hb2⟩;replace wx:=wx.behind hb2;obtain ⟨y0,y1,y2,y3,y4,y5,y6,y7,y8,y9,y10,y11⟩:=row12 wx.at_))
      go_returns
      exact ⟨rfl,_,by rw [HQ.out,HTK.out];have:=wx.wrt;first|exact this|(simp only [List.append_assoc] at this ⊢;exact this)|(simp only [List.append_nil] at this ⊢;exact this),wx.st⟩
end Go.Proofs.YthceefjafklcmaaGreatDoor
