/- The plain side: formats, values, tiles: what the printed functions that read come to (each theorem says its conditions). -/
import Derived.Test.YtfcamlibbfnldaaGreatSD
import Derived.Test.YtfcamlibbfnldaaGreatAmC
import Derived.KernelRfl
set_option linter.unusedSimpArgs false
set_option linter.unusedVariables false
set_option linter.unusedSectionVars false
set_option maxRecDepth 100000
namespace Go.Proofs.YtfcamlibbfnldaaGreat.Am
open Go.Am
theorem toList_data (s:ByteArray):s.toList=s.data.toList:=by
 exact ByteArray.toList_eq s
theorem uc (s:ByteArray):bytesOf s=s.data.toList.map fun x=>(x.toNat:Int):=by
 unfold bytesOf;rw[toList_data]
theorem am {i n:Nat} (h:i<n):within (i:Int) n=true:=by unfold within;simp only[decide_eq_true_eq];omega
theorem UW {L:List Int} {i:Nat} (h:i<L.length):L[i]?=some (L.getD i 0):=by rw[List.getD,List.getElem?_eq_getElem h];rfl
theorem zQ (s:ByteArray):aE (bytesOf s)=s:=by
 rw[uc]
 unfold aE
 apply ByteArray.ext
 show((s.data.toList.map fun(x:UInt8)=>((x.toNat:Nat):Int)).map fun(n:Int)=>UInt8.ofNat n.toNat).toArray=s.data
 rw[List.map_map]
 have:(fun(n:Int)=>UInt8.ofNat n.toNat)∘(fun(x:UInt8)=>((x.toNat:Nat):Int))=id:=by
  funext x
  show UInt8.ofNat ((x.toNat:Int).toNat)=x
  rw[Int.toNat_natCast,UInt8.ofNat_toNat]
 rw[this,List.map_id]
theorem O9 (a b c d:Int):oC 200000 (0,4,[a,b,c,d])=some [d,c,b,a]:=by
 have h3:∀(i j:Int) (l:List Int),¬i<j→bP 200000 (199997+1) (i,j,0,4,l)=some l:=by
  intro i j l h
  show er 200000 (bP 200000 199997) _=_
  generalize bP 200000 199997=G
  simp only[er,ae]
  rw[if_neg (by simpa using h)]
 have h2:bP 200000 (199998+1) (1,2,0,4,[d,b,c,a])=some [d,c,b,a]:=by
  show er 200000 (bP 200000 (199997+1)) _=_
  have hn:=h3 2 1 [d,c,b,a] (by decide)
  generalize bP 200000 (199997+1)=G at *
  simp only[er,ae]
  have w1:within (1:Int) 4=true:=rfl
  have w2:within (2:Int) 4=true:=rfl
  rw[if_pos (by decide),if_pos w2]
  show Option.bind (some c) _=_
  rw[Option.bind_some,if_pos w1]
  show Option.bind (some b) _=_
  rw[Option.bind_some,if_pos w1]
  show Option.bind (some b) _=_
  rw[Option.bind_some,if_pos w2]
  show Option.bind (some c) _=_
  rw[Option.bind_some,show IntKind.wrap .i64 ((1:Int)+1)=2 from rfl,show IntKind.wrap .i64 ((2:Int)-1)=1 from rfl]
  show Option.bind (G (2,1,0,4,[d,c,b,a])) _=_
  rw[hn]
  rfl
 have h1:bP 200000 (199999+1) (0,3,0,4,[a,b,c,d])=some [d,c,b,a]:=by
  show er 200000 (bP 200000 (199998+1)) _=_
  generalize bP 200000 (199998+1)=G at *
  simp only[er,ae]
  have w1:within (0:Int) 4=true:=rfl
  have w2:within (3:Int) 4=true:=rfl
  rw[if_pos (by decide),if_pos w2]
  show Option.bind (some d) _=_
  rw[Option.bind_some,if_pos w1]
  show Option.bind (some a) _=_
  rw[Option.bind_some,if_pos w1]
  show Option.bind (some a) _=_
  rw[Option.bind_some,if_pos w2]
  show Option.bind (some d) _=_
  rw[Option.bind_some,show IntKind.wrap .i64 ((0:Int)+1)=1 from rfl,show IntKind.wrap .i64 ((3:Int)-1)=2 from rfl]
  show Option.bind (G (1,2,0,4,[d,b,c,a])) _=_
  rw[h2]
  rfl
 simp only[oC]
 rw[show IntKind.wrap .i64 (((4:Nat):Int)-1)=3 from rfl]
 show Option.bind (bP 200000 (199999+1) _) _=_
 rw[h1,Option.bind_some]
theorem jS (n m:Nat):Int.fdiv (n:Int) (m:Int)=((n / m:Nat):Int):=by
 rw[Int.fdiv_eq_ediv_of_nonneg _ (by omega)];rfl
end Go.Proofs.YtfcamlibbfnldaaGreat.Am
set_option maxRecDepth 100000
namespace Go.Proofs.YtfcamlibbfnldaaGreat.Am
open Go.Am
def B (l:List UInt8):ByteArray:=⟨l.toArray⟩
def ints (l:List UInt8):List Int:=l.map fun x=>(x.toNat:Int)
theorem az (l:List UInt8):(B l).size=l.length:=by show(List.toArray l).size=_;simp
theorem Ml (l:List UInt8) (a b:Nat):(B l).extract a b=B ((l.drop a).take (b-a)):=by
 unfold B
 apply ByteArray.ext
 rw[ByteArray.data_extract]
 apply Array.ext'
 simp
theorem il (l k:List UInt8):B l++B k=B (l++k):=by
 unfold B
 apply ByteArray.ext
 simp
theorem dY (l:List UInt8):bytesOf (B l)=ints l:=by rw[uc];unfold B ints;simp
theorem GA (l:List UInt8) (i:Nat):(B l)[i]?=l[i]?:=by
 by_cases h:i<l.length
 ·have hs:i<(B l).size:=by rw[az];exact h
  have e:(B l)[i]?=some ((B l)[i]):=by simp[hs]
  rw[e,List.getElem?_eq_getElem h]
  rfl
 ·have hs:¬i<(B l).size:=by rw[az];exact h
  rw[List.getElem?_eq_none (by omega)]
  simp[hs]
theorem en (l:List UInt8):aE (ints l)=B l:=by rw[←dY,zQ]
theorem aI (l:List UInt8):(ints l).length=l.length:=by unfold ints;simp
theorem G6 (x:UInt8):IntKind.wrap .i64 (x.toNat:Int)=(x.toNat:Int):=by
 have:=x.toNat_lt
 exact wrap_i64 (by omega) (by omega)
theorem aQ {n:Int} (h0 : -1000000000000000≤n) (h:n≤1000000000000000):IntKind.wrap .i64 n=n:=wrap_i64 (by omega) (by omega)
theorem Xv (l:List UInt8) (k p:Nat) (h:p+k≤l.length) (hl:l.length≤200000000000000):mW 200000 ((k:Int),B l,(p:Int),0)=some (B ((l.drop p).take k),B l,((p+k:Nat):Int),0):=by
 have w1:IntKind.wrap .i64 (((B l).size:Int)-(p:Int))=((l.length-p:Nat):Int):=by rw[az,aQ (by omega) (by omega)];omega
 have w2:IntKind.wrap .i64 ((p:Int)+(k:Int))=((p+k:Nat):Int):=by rw[aQ (by omega) (by omega)];omega
 have w3:IntKind.wrap .i64 (((p+k:Nat):Int)-(k:Int))=(p:Int):=by rw[aQ (by omega) (by omega)];omega
 simp only[mW,F86,ae,Option.bind_some,w1,w2,w3,Int.toNat_natCast]
 rw[aL (by omega),aL (by omega),if_neg (by decide),aK (by rw[az];omega),aK (by omega),Ml,show p+k-p=k by omega]
theorem Po (l:List UInt8) (k p:Nat) (h:l.length<p+k) (hp:p≤l.length) (hl:l.length≤200000000000000):mW 200000 ((k:Int),B l,(p:Int),0)=some (B [],B l,(p:Int),2):=by
 have w1:IntKind.wrap .i64 (((B l).size:Int)-(p:Int))=((l.length-p:Nat):Int):=by rw[az,aQ (by omega) (by omega)];omega
 simp only[mW,F86,IK,ae,Option.bind_some,w1]
 rw[aL (by omega),aK (by omega),if_pos (by decide),Option.bind_some]
 simp only
 rw[if_pos (by decide)]
 rfl
theorem Tu (l:List UInt8) (k p:Nat) (hp:p≤l.length) (hl:l.length≤200000000000000):mW 200000 ((k:Int),B l,(p:Int),2)=some (B [],B l,(p:Int),2):=by
 have w1:IntKind.wrap .i64 (((B l).size:Int)-(p:Int))=((l.length-p:Nat):Int):=by rw[az,aQ (by omega) (by omega)];omega
 simp only[mW,F86,IK,ae,Option.bind_some,w1]
 rw[aL (by omega)]
 by_cases h:l.length<p+k
 ·rw[aK (by omega),if_neg (by decide),Option.bind_some]
  simp only
  rw[if_pos (by decide)]
  rfl
 ·rw[aL (by omega),if_pos (by decide)]
  rfl
theorem Fp (a:Int):oC 200000 (0,1,[a])=some [a]:=by
 simp only[oC]
 rw[show IntKind.wrap .i64 (((1:Nat):Int)-1)=0 from rfl]
 show Option.bind (bP 200000 (199999+1) _) _=_
 show Option.bind (er 200000 (bP 200000 199999) _) _=_
 generalize bP 200000 199999=G
 simp only[er,ae]
 rw[if_neg (by decide),Option.bind_some]
theorem S3:oC 200000 (0,0,[])=some []:=by
 simp only[oC]
 show Option.bind (bP 200000 (199999+1) _) _=_
 show Option.bind (er 200000 (bP 200000 199999) _) _=_
 generalize bP 200000 199999=G
 simp only[er,ae]
 rw[if_neg (by decide),Option.bind_some]
theorem Te (l m:List UInt8) (hl:l.length≤1000) (h:oC 200000 (0,l.length,ints l)=some (ints m)):wS 200000 (B l)=some (B m):=by
 simp only[wS,ae]
 rw[aK (by rw[az];omega),dY,aI,h,Option.bind_some,en]
def Aq:List UInt8→Nat
 | []=>0
 | x::r=>x.toNat+256*Aq r
theorem tO:∀(l:List UInt8),Aq l<256^l.length
 | []=>by decide
 | x::r=>by
  have:=tO r
  have:=x.toNat_lt
  simp only[Aq,List.length_cons,Nat.pow_succ]
  omega
theorem tN:∀(l:List UInt8) (x:UInt8),Aq (l++[x])=Aq l+256^l.length*x.toNat
 | [],x=>by simp[Aq]
 | y::r,x=>by
  rw[List.cons_append,Aq,Aq,tN r x,List.length_cons,Nat.pow_succ,Nat.mul_add]
  rw[show 256*(256^r.length*x.toNat)=256^r.length*256*x.toNat by rw[Nat.mul_comm (256^r.length) 256,Nat.mul_assoc]]
  omega
theorem DX (l:List UInt8) (hl:l.length≤4) (s:ByteArray) (p e:Int):∀(suf pre:List UInt8) (k:Nat),l=pre++suf→suf.length<k →
  cO 200000 k (((Aq pre:Nat):Int),((pre.length:Nat):Int),((l.length:Nat):Int),s,p,e,ints l)=some (((Aq l:Nat):Int),s,p,e)
 | [],pre,k+1,h,_=>by
  have:pre=l:=by rw[h];simp
  subst this
  show iu 200000 (cO 200000 k) _=_
  simp only[iu,ae]
  rw[aL (by omega)]
 | x::r,pre,k+1,h,hk=>by
  have hn:l.length=pre.length+r.length+1:=by rw[h];simp;omega
  have ih:=DX l hl s p e r (pre++[x]) k (by rw[h];simp) (by simp at hk;omega)
  rw[show(pre++[x]).length=pre.length+1 by simp] at ih
  show iu 200000 (cO 200000 k) _=_
  generalize cO 200000 k=G at *
  simp only[iu,ae]
  have hg:(ints l)[pre.length]?=some (x.toNat:Int):=by
   rw[h];unfold ints;simp
  have hw:IntKind.wrap .i64 ((8:Int)*((pre.length:Nat):Int))=((8*pre.length:Nat):Int):=by rw[aQ (by omega) (by omega)];omega
  have hw2:IntKind.wrap .i64 (((pre.length:Nat):Int)+1)=((pre.length+1:Nat):Int):=by rw[aQ (by omega) (by omega)];omega
  have ho:=av9 (A:=Aq pre) (B:=x.toNat) (i:=8*pre.length) (j:=8) (by have:=tO pre;rw[show(256:Nat)=2^8 from rfl,←Nat.pow_mul] at this;exact this) (by have:=x.toNat_lt;omega) (by omega)
  rw[aK (by omega),if_pos (am (by rw[aI];omega)),Int.toNat_natCast,hg,Option.bind_some,hw,aL (by omega),G6,ho,hw2]
  have e2:Aq pre+2^(8*pre.length)*x.toNat=Aq (pre++[x]):=by
   rw[tN,show(256:Nat)=2^8 from rfl,←Nat.pow_mul]
  rw[e2,ih,Option.bind_some]
theorem Fy (l m:List UInt8) (hl:l.length≤4) (hm:m.length=l.length) (k:Int) (s:ByteArray) (p e:Int) (s0:ByteArray) (p0 e0:Int) (hw:S4 200000 k=some true) (hB:mW 200000 (k,s0,p0,e0)=some (B l,s,p,e)) (ht:wS 200000 (B l)=some (B m)) :
  v8 200000 (k,s0,p0,e0)=some (((Aq m:Nat):Int),s,p,e):=by
 have hloop:=DX m (by omega) s p e m [] 200000 rfl (by omega)
 simp only[v8,Xr,ae]
 rw[hw,Option.bind_some]
 simp only[Bool.not_true,Bool.false_eq_true,if_false]
 rw[hB,Option.bind_some]
 simp only
 rw[ht,Option.bind_some,aK (by rw[az];omega),dY,aI]
 show Option.bind (Option.bind (cO 200000 200000 (((Aq []:Nat):Int),((([]:List UInt8).length:Nat):Int),((m.length:Nat):Int),s,p,e,ints m)) _) _=_
 rw[hloop,Option.bind_some,Option.bind_some]
theorem ar4:wS 200000 (B [])=some (B []):=Te [] [] (by decide) S3
theorem ar3 (a:UInt8):wS 200000 (B [a])=some (B [a]):=Te [a] [a] (by simp) (Fp _)
def mB (l:List UInt8):Nat:=Aq l.reverse
theorem AS {l:List UInt8} (h:l.length≤4):mB l<4294967296:=by
 have:=tO l.reverse
 rw[List.length_reverse] at this
 have h2:256^l.length≤256^4:=Nat.pow_le_pow_right (by decide) h
 unfold mB
 have:(256:Nat)^4=4294967296:=by decide
 omega
end Go.Proofs.YtfcamlibbfnldaaGreat.Am
set_option maxRecDepth 100000
namespace Go.Proofs.YtfcamlibbfnldaaGreat.Am
open Go.Am
theorem pr {c:Int} (h:0≤c):∃n:Nat,c=(n:Int):=Int.eq_ofNat_of_zero_le h
def wf (x:Int):Nat→Nat→Option Nat
 | 0,_=>none
 | j+1,i=>if x=(2:Int)^i-1 then some i else wf x j (i+1)
theorem fP (x:Int):∀(j i w:Nat),wf x j i=some w→x=(2:Int)^w-1∧i≤w∧w<i+j
 | j+1,i,w,h=>by
  unfold wf at h
  split at h
  ·rename_i hx;cases h;exact⟨hx,Nat.le_refl _,by omega⟩
  ·obtain⟨h1,h2,h3⟩:=fP x j (i+1) w h;exact⟨h1,by omega,by omega⟩
theorem Oq {i:Nat} (h:i≤17):(1:Int)≤(2:Int)^i∧(2:Int)^i≤131072:=by
 have h1:2^i≤2^17:=Nat.pow_le_pow_right (by decide) h
 have h2:0<2^i:=Nat.pow_pos (by decide)
 have e:(2:Int)^i=((2^i:Nat):Int):=by simp
 rw[e]
 have:(2:Nat)^17=131072:=by decide
 omega
theorem za (x:Int):∀(j i k:Nat),i+j=17→1≤i→j<k→lH 200000 k ((2:Int)^(i-1),x,(i:Int))=some (match wf x j i with|some w=>.inl (w:Int)|none=>.inr ())
 | 0,i,k+1,h,h1,_=>by
  show oQ 200000 (lH 200000 k) _=_
  simp only[oQ,ae]
  rw[aL (by omega)]
  rfl
 | j+1,i,k+1,h,h1,hk=>by
  have ih:=za x j (i+1) k (by omega) (by omega) (by omega)
  rw[show i+1-1=i by omega] at ih
  show oQ 200000 (lH 200000 k) _=_
  generalize lH 200000 k=G at *
  simp only[oQ,ae]
  have e:(2:Int)^(i-1)*2=(2:Int)^i:=by
   rw[←Int.pow_succ,show(i-1).succ=i from by omega]
  obtain⟨p1,p2⟩:=Oq (i:=i) (by omega)
  rw[aK (by omega),e,aQ (n:=(2:Int)^i) (by omega) (by omega),aQ (n:=(2:Int)^i-1) (by omega) (by omega),aQ (by omega) (by omega),show(i:Int)+1=((i+1:Nat):Int) by omega,ih]
  rw[wf]
  by_cases hx:x=(2:Int)^i-1
  ·rw[if_pos (by simpa using hx),if_pos hx]
  ·rw[if_neg (by simpa using hx),if_neg hx,Option.bind_some]
   generalize wf x j (i+1)=o
   cases o<;>rfl
theorem Xq (x:Int):ao9 200000 x=some (match wf x 16 1 with|some w=>(w:Int)|none=>0):=by
 have h:=za x 16 1 200000 rfl (by omega) (by omega)
 rw[show(2:Int)^(1-1)=1 from rfl,show((1:Nat):Int)=1 from rfl] at h
 simp only[ao9]
 rw[h,Option.bind_some]
 generalize wf x 16 1=o
 cases o<;>rfl
def part (b m s:Int):Bool:=match wf m 16 1 with
 | some w=>decide (0≤s)&&decide (s+(w:Int)≤b)
 | none=>false
theorem qu {b:Int} (hb:b≤32) (m s:Int):Tt 200000 (b,m,s)=some (part b m s):=by
 simp only[Tt,ae]
 rw[Xq,Option.bind_some]
 unfold part
 cases h:wf m 16 1 with
 | none=>rfl
 | some w =>
  obtain⟨_,h1,h2⟩:=fP m 16 1 w h
  simp only
  rw[aK (by omega)]
  by_cases hs:0≤s
  ·rw[aK (show s≥0 from hs),decide_eq_true hs]
   by_cases hs2:s≤32
   ·rw[aK hs2,aQ (by omega) (by omega)]
    rfl
   ·rw[aL hs2,decide_eq_false (by omega:¬s+(w:Int)≤b)]
    rfl
  ·rw[aL (show ¬s≥0 from hs),decide_eq_false hs]
   rfl
def QP:List Nat:=[0,1,3,7,15,31,63,127,255,511,1023,2047,4095,8191,16383,32767,65535]
theorem U8:(List.range 65536).all (fun m=>(m &&& (m+1)) != 0||QP.contains m)=true:=by kernel_rfl
theorem ac3 {m:Nat} (h:QP.contains m=true) (h0:m≠0):(wf (m:Int) 16 1).isSome=true:=by
 simp only[QP,List.contains_cons,List.contains_nil,Bool.or_false,Bool.or_eq_true,beq_iff_eq] at h
 rcases h with h|h|h|h|h|h|h|h|h|h|h|h|h|h|h|h|h<;>subst h
 ·exact absurd rfl h0
 all_goals decide
noncomputable def aw4 (w:Nat):Bool:=match Pg 200000 (IntKind.wrap .u64 ((2:Int)^w-1)) with
 | some v=>decide (v=(w:Int))&&decide (IntKind.wrap .i64 ((BitVec.toNat (BitVec.ofInt 64 ((2:Int)^w-1) &&& BitVec.ofInt 64 (IntKind.wrap .i64 ((2:Int)^w-1+1))):Nat):Int)=0)
 | none=>false
theorem Uw:(List.range 17).all (fun w=>Nat.beq w 0||aw4 w)=true:=by kernel_rfl
theorem aw3 {w:Nat} (h1:1≤w) (h2:w<17):Pg 200000 (IntKind.wrap .u64 ((2:Int)^w-1))=some (w:Int)∧IntKind.wrap .i64 ((BitVec.toNat (BitVec.ofInt 64 ((2:Int)^w-1) &&& BitVec.ofInt 64 (IntKind.wrap .i64 ((2:Int)^w-1+1))):Nat):Int)=0:=by
 have h:=List.all_eq_true.1 Uw w (List.mem_range.2 h2)
 have h0:Nat.beq w 0=false:=by
  cases hb:Nat.beq w 0 with
  | false=>rfl
  | true=>have:=Nat.eq_of_beq_eq_true hb;omega
 rw[h0,Bool.false_or] at h
 unfold aw4 at h
 cases hf:Pg 200000 (IntKind.wrap .u64 ((2:Int)^w-1)) with
 | none=>rw[hf] at h;cases h
 | some v =>
  rw[hf] at h
  simp only[Bool.and_eq_true,decide_eq_true_eq] at h
  exact⟨by rw[h.1],h.2⟩
theorem Sy {b:Int} (hb:b≤32) (m s:Int):F98 200000 (m,s,b)=some (part b m s):=by
 simp only[F98,ae]
 unfold part
 by_cases h1:m<1
 ·rw[aK h1]
  have:wf m 16 1=none:=by
   cases h:wf m 16 1 with
   | none=>rfl
   | some w =>
    obtain⟨h2,h3,h4⟩:=fP m 16 1 w h
    have h5:(2:Int)^1≤(2:Int)^w:=by
     have:2^1≤2^w:=Nat.pow_le_pow_right (by decide) h3
     have e:(2:Int)^w=((2^w:Nat):Int):=by simp
     rw[e]
     omega
    omega
  rw[this]
 ·rw[aL h1]
  by_cases h2:m>65535
  ·rw[aK h2]
   have:wf m 16 1=none:=by
    cases h:wf m 16 1 with
    | none=>rfl
    | some w =>
     obtain⟨h2,h3,h4⟩:=fP m 16 1 w h
     have h5:2^w≤2^16:=Nat.pow_le_pow_right (by decide) (by omega)
     have e:(2:Int)^w=((2^w:Nat):Int):=by simp
     rw[e] at h2
     have:(2:Nat)^16=65536:=by decide
     omega
   rw[this]
  ·rw[aL h2]
   obtain⟨n,rfl⟩:=pr (show 0≤m by omega)
   cases h:wf (n:Int) 16 1 with
   | none =>
    have hc:=List.all_eq_true.1 U8 n (List.mem_range.2 (by omega))
    have hp:QP.contains n=false:=by
     cases hp:QP.contains n with
     | false=>rfl
     | true=>have hw:=ac3 hp (by omega);rw[h] at hw;cases hw
    rw[hp,Bool.or_false] at hc
    have hne:(n &&& (n+1))≠0:=by simpa using hc
    have e:IntKind.wrap .i64 ((BitVec.toNat (BitVec.ofInt 64 (n:Int) &&& BitVec.ofInt 64 (IntKind.wrap .i64 ((n:Int)+1))):Nat):Int)=((n &&& (n+1):Nat):Int):=by
     rw[aQ (n:=(n:Int)+1) (by omega) (by omega),show(n:Int)+1=((n+1:Nat):Int) by omega]
     have e2:(BitVec.ofInt 64 (n:Int) &&& BitVec.ofInt 64 ((n+1:Nat):Int)).toNat=n &&& (n+1):=by
      rw[BitVec.toNat_and,BitVec.ofInt_natCast,BitVec.ofInt_natCast,BitVec.toNat_ofNat,BitVec.toNat_ofNat,Nat.mod_eq_of_lt (by omega),Nat.mod_eq_of_lt (by omega)]
     have h3:n &&& (n+1)≤n:=Nat.and_le_left
     rw[e2,aQ (by omega) (by omega)]
    rw[e,if_pos (by simp only[bne_iff_ne,ne_eq];omega)]
   | some w =>
    obtain⟨hw,h3,h4⟩:=fP (n:Int) 16 1 w h
    obtain⟨l1,l2⟩:=aw3 (w:=w) h3 (by omega)
    rw[←hw] at l1 l2
    rw[l2,if_neg (by decide)]
    simp only
    by_cases hs:0≤s
    ·rw[aL (by omega),decide_eq_true hs]
     by_cases hs2:s≤b
     ·rw[aL (by omega),l1,Option.bind_some,aQ (by omega) (by omega)]
      rfl
     ·rw[aK (by omega),decide_eq_false (by omega:¬s+(w:Int)≤b)]
      rfl
    ·rw[aK (by omega),decide_eq_false hs]
     rfl
end Go.Proofs.YtfcamlibbfnldaaGreat.Am
set_option maxRecDepth 100000
namespace Go.Proofs.YtfcamlibbfnldaaGreat.Am
open Go.Am
def M (m s:Int):Nat:=m.toNat*2^s.toNat
theorem dG {b m s:Int} (hb:b≤32) (h:part b m s=true):∃m' s':Nat,m=(m':Int)∧s=(s':Int)∧1≤m'∧m'<65536∧s'≤31∧m'*2^s'<4294967296:=by
 unfold part at h
 cases hw:wf m 16 1 with
 | none=>rw[hw] at h;cases h
 | some w =>
  rw[hw] at h
  simp only[Bool.and_eq_true,decide_eq_true_eq] at h
  obtain⟨h1,h2,h3⟩:=fP m 16 1 w hw
  obtain⟨s',rfl⟩:=pr h.1
  have e:(2:Int)^w=((2^w:Nat):Int):=by simp
  have p0:0<2^w:=Nat.pow_pos (by decide)
  have p1:2^1≤2^w:=Nat.pow_le_pow_right (by decide) h2
  have p2:2^w≤2^16:=Nat.pow_le_pow_right (by decide) (by omega)
  have p3:(2:Nat)^16=65536:=by decide
  refine⟨2^w-1,s',by rw[h1,e];omega,rfl,by omega,by omega,by omega,?_⟩
  have h4:(2^w-1)*2^s'<2^w*2^s':=Nat.mul_lt_mul_of_pos_right (by omega) (Nat.pow_pos (by decide))
  rw[←Nat.pow_add] at h4
  have h5:2^(w+s')≤2^32:=Nat.pow_le_pow_right (by decide) (by omega)
  have h6:(2:Nat)^32=4294967296:=by decide
  omega
theorem bg {b m s:Int} (hb:b≤32) (h:part b m s=true):F96 200000 (m,s)=some ((M m s:Nat):Int)∧FF 200000 (m,s)=some ((M m s:Nat):Int)∧M m s<4294967296:=by
 obtain⟨m',s',rfl,rfl,h1,h2,h3,h4⟩:=dG hb h
 have e:IntKind.wrap .i64 ((m':Int)*(2:Int)^min (Int.toNat (s':Int)) 64)=((m'*2^s':Nat):Int):=by
  rw[Int.toNat_natCast,Nat.min_eq_left (by omega),show(m':Int)*(2:Int)^s'=((m'*2^s':Nat):Int) by simp,aQ (by omega) (by omega)]
 unfold M
 rw[Int.toNat_natCast,Int.toNat_natCast]
 simp only[F96,FF,ae]
 rw[aL (by omega),e]
 exact⟨rfl,rfl,h4⟩
theorem du {a c:Nat} (ha:a<4294967296) (hc:c<4294967296):IntKind.wrap .i64 ((BitVec.toNat (BitVec.ofInt 64 (a:Int) &&& BitVec.ofInt 64 (c:Int)):Nat):Int)=((a &&& c:Nat):Int):=by
 have e:(BitVec.ofInt 64 (a:Int) &&& BitVec.ofInt 64 (c:Int)).toNat=a &&& c:=by
  rw[BitVec.toNat_and,BitVec.ofInt_natCast,BitVec.ofInt_natCast,BitVec.toNat_ofNat,BitVec.toNat_ofNat,Nat.mod_eq_of_lt (by omega),Nat.mod_eq_of_lt (by omega)]
 have h:a &&& c≤a:=Nat.and_le_left
 rw[e,aQ (by omega) (by omega)]
theorem ck {a c:Nat} (ha:a<4294967296) (hc:c<4294967296):IntKind.wrap .i64 ((BitVec.toNat (BitVec.ofInt 64 (a:Int) ||| BitVec.ofInt 64 (c:Int)):Nat):Int)=((a ||| c:Nat):Int)∧a ||| c<4294967296:=by
 have e:(BitVec.ofInt 64 (a:Int) ||| BitVec.ofInt 64 (c:Int)).toNat=a ||| c:=by
  rw[BitVec.toNat_or,BitVec.ofInt_natCast,BitVec.ofInt_natCast,BitVec.toNat_ofNat,BitVec.toNat_ofNat,Nat.mod_eq_of_lt (by omega),Nat.mod_eq_of_lt (by omega)]
 have h:a ||| c<2^32:=Nat.or_lt_two_pow (by omega) (by omega)
 have h6:(2:Nat)^32=4294967296:=by decide
 rw[e,aQ (by omega) (by omega)]
 exact⟨rfl,by omega⟩
section
variable (b d:Int) (g t:Bool) (m0 m1 m2 s0 s1 s2:Int)
def OH:Bool:=decide (M m0 s0 &&& M m1 s1=0)&&decide ((M m0 s0 ||| M m1 s1) &&& M m2 s2=0)
def jm:Bool:=((b==8||b==16)||b==32)&&((!decide (d<1))&&((!decide (d>b))&&(t&&(part b m0 s0&&(part b m1 s1&&(part b m2 s2&&OH m0 m1 m2 s0 s1 s2))))))
theorem G8 (L:List (Int×Int×Unit)) (hL3:L.length=3) (i k acc:Nat) (m s:Int) (hL:L[i]?=some (m,s,())) (hi:i<3) (hb:b≤32) (ha:acc<4294967296) :
  cQ 200000 (k+1) (L,(i:Int),(acc:Int),b,d,g,t,m0,m1,m2,s0,s1,s2)=if part b m s=true then (if acc &&& M m s=0 then cQ 200000 k (L,((i+1:Nat):Int),((acc ||| M m s:Nat):Int),b,d,g,t,m0,m1,m2,s0,s1,s2) else some (.inl false)) else some (.inl false):=by
 show lL 200000 (cQ 200000 k) _=_
 generalize cQ 200000 k=G
 simp only[lL,ae]
 rw[aK (by omega),if_pos (am (by omega)),Int.toNat_natCast,hL,Option.bind_some]
 simp only
 rw[Sy hb,Option.bind_some]
 cases hp:part b m s with
 | false=>rfl
 | true =>
  obtain⟨k1,_,k3⟩:=bg hb hp
  simp only[Bool.not_true,Bool.false_eq_true,if_false,if_true]
  rw[k1,Option.bind_some,du ha k3,Option.bind_some,(ck ha k3).1,aQ (by omega) (by omega),show(i:Int)+1=((i+1:Nat):Int) by omega]
  by_cases h0:acc &&& M m s=0
  ·rw[if_pos h0,if_neg (by simp[h0])]
   generalize G _=o
   cases o with
   | none=>rfl
   | some r=>cases r<;>rfl
  ·rw[if_neg h0,if_pos (by simp only[bne_iff_ne,ne_eq];omega)]
theorem dN:SF 200000 (b,d,g,t,m0,m1,m2,s0,s1,s2)=some (jm b d t m0 m1 m2 s0 s1 s2):=by
 have h7:b≤32→vU 200000 (b,d,g,t,m0,m1,m2,s0,s1,s2)=some ((!decide (d<1))&&((!decide (d>b))&&(t&&(part b m0 s0&&(part b m1 s1&&(part b m2 s2&&OH m0 m1 m2 s0 s1 s2)))))):=by
  intro hb
  simp only[vU,TP,ae,Option.bind_some]
  cases decide (d<1) with
  | true=>rfl
  | false =>
   cases decide (d>b) with
   | true=>rfl
   | false =>
    cases t with
    | false=>rfl
    | true =>
     simp only[Bool.not_true,Bool.false_eq_true,if_false,Bool.not_false,Bool.true_and]
     have a0:=G8 b d g true m0 m1 m2 s0 s1 s2 [(m0,s0,()),(m1,s1,()),(m2,s2,())] rfl 0 199999 0 m0 s0 rfl (by omega) hb (by omega)
     have e0:cQ 200000 200000 ([(m0,s0,()),(m1,s1,()),(m2,s2,())],0,0,b,d,g,true,m0,m1,m2,s0,s1,s2)=cQ 200000 (199999+1) ([(m0,s0,()),(m1,s1,()),(m2,s2,())],((0:Nat):Int),((0:Nat):Int),b,d,g,true,m0,m1,m2,s0,s1,s2):=rfl
     rw[e0,a0]
     cases p0:part b m0 s0 with
     | false=>rfl
     | true =>
      have q0:=(bg hb p0).2.2
      rw[if_pos rfl,if_pos (Nat.zero_and _),Nat.zero_or]
      have a1:=G8 b d g true m0 m1 m2 s0 s1 s2 [(m0,s0,()),(m1,s1,()),(m2,s2,())] rfl 1 199998 (M m0 s0) m1 s1 rfl (by omega) hb q0
      rw[show(0+1:Nat)=1 from rfl,show(199999:Nat)=199998+1 from rfl,a1]
      cases p1:part b m1 s1 with
      | false=>rfl
      | true =>
       have q1:=(bg hb p1).2.2
       rw[if_pos rfl]
       unfold OH
       by_cases z1:M m0 s0 &&& M m1 s1=0
       ·rw[if_pos z1,decide_eq_true z1]
        have a2:=G8 b d g true m0 m1 m2 s0 s1 s2 [(m0,s0,()),(m1,s1,()),(m2,s2,())] rfl 2 199997 (M m0 s0 ||| M m1 s1) m2 s2 rfl (by omega) hb (ck q0 q1).2
        rw[show(1+1:Nat)=2 from rfl,show(199998:Nat)=199997+1 from rfl,a2]
        cases p2:part b m2 s2 with
        | false=>rfl
        | true =>
         rw[if_pos rfl]
         by_cases z2:(M m0 s0 ||| M m1 s1) &&& M m2 s2=0
         ·rw[if_pos z2,decide_eq_true z2]
          have a3:∀acc:Int,cQ 200000 (199996+1) ([(m0,s0,()),(m1,s1,()),(m2,s2,())],((2+1:Nat):Int),acc,b,d,g,true,m0,m1,m2,s0,s1,s2)=some (.inr ()):=by
           intro acc
           show lL 200000 (cQ 200000 199996) _=_
           simp only[lL,ae]
           rw[aL (by omega)]
          rw[show(199997:Nat)=199996+1 from rfl,a3]
          rfl
         ·rw[if_neg z2,decide_eq_false z2]
          rfl
       ·rw[if_neg z1,decide_eq_false z1]
        cases part b m2 s2<;>rfl
 simp only[SF,ae]
 unfold jm
 by_cases b8:b=8
 ·rw[if_pos (by simpa using b8),h7 (by omega),Option.bind_some,b8];rfl
 ·rw[if_neg (by simpa using b8)]
  by_cases b16:b=16
  ·rw[if_pos (by simpa using b16),h7 (by omega),Option.bind_some,b16];rfl
  ·rw[if_neg (by simpa using b16)]
   by_cases b32:b=32
   ·rw[if_pos (by simpa using b32),h7 (by omega),Option.bind_some,b32];rfl
   ·rw[if_neg (by simpa using b32)]
    have:((b==8||b==16)||b==32)=false:=by simp[b8,b16,b32]
    rw[this];rfl
theorem OV:F80 200000 (b,d,g,t,m0,m1,m2,s0,s1,s2)=some (jm b d t m0 m1 m2 s0 s1 s2):=by
 have h7:b≤32→Fe 200000 (b,d,g,t,m0,m1,m2,s0,s1,s2)=some (part b m0 s0&&(part b m1 s1&&(part b m2 s2&&OH m0 m1 m2 s0 s1 s2))):=by
  intro hb
  simp only[Fe,ae]
  rw[qu hb,Option.bind_some,qu hb,qu hb]
  cases p0:part b m0 s0 with
  | false=>rfl
  | true =>
   cases p1:part b m1 s1 with
   | false=>rfl
   | true =>
    cases p2:part b m2 s2 with
    | false=>rfl
    | true =>
     obtain⟨_,k0,q0⟩:=bg hb p0
     obtain⟨_,k1,q1⟩:=bg hb p1
     obtain⟨_,k2,q2⟩:=bg hb p2
     simp only[Bool.not_true,Bool.false_eq_true,if_false,Option.bind_some,Bool.true_and]
     simp only[SD,ae]
     rw[k0,Option.bind_some,k1,Option.bind_some,k2,Option.bind_some,du q0 q1,du q0 q2,du q1 q2]
     unfold OH
     rw[Nat.and_or_distrib_right]
     by_cases z1:M m0 s0 &&& M m1 s1=0
     ·rw[decide_eq_true z1,if_pos (by simp[z1])]
      by_cases z2:M m0 s0 &&& M m2 s2=0
      ·rw[if_pos (by simp[z2]),z2,Nat.zero_or]
       by_cases z3:M m1 s1 &&& M m2 s2=0
       ·rw[decide_eq_true z3,z3];rfl
       ·rw[decide_eq_false z3]
        have:(((M m1 s1 &&& M m2 s2:Nat):Int)==0)=false:=by simp only[beq_eq_false_iff_ne,ne_eq];omega
        rw[this];rfl
      ·rw[if_neg (by simp only[beq_iff_eq];omega)]
       have:¬((M m0 s0 &&& M m2 s2) ||| (M m1 s1 &&& M m2 s2))=0:=fun h=>z2 (Nat.or_eq_zero_iff.1 h).1
       rw[decide_eq_false this];rfl
     ·rw[decide_eq_false z1,if_neg (by simp only[beq_iff_eq];omega)]
      rfl
 simp only[F80,ae]
 unfold jm
 by_cases b8:b=8
 ·rw[if_neg (by simp[b8]),h7 (by omega),Option.bind_some]
  have:((b==8||b==16)||b==32)=true:=by simp[b8]
  rw[this]
  cases decide (d<1)<;>cases decide (d>b)<;>cases t<;>rfl
 ·rw[if_pos (by simpa using b8)]
  by_cases b16:b=16
  ·rw[if_neg (by simp[b16]),h7 (by omega),Option.bind_some]
   have:((b==8||b==16)||b==32)=true:=by simp[b16]
   rw[this]
   cases decide (d<1)<;>cases decide (d>b)<;>cases t<;>rfl
  ·rw[if_pos (by simpa using b16)]
   by_cases b32:b=32
   ·rw[if_neg (by simp[b32]),h7 (by omega),Option.bind_some]
    have:((b==8||b==16)||b==32)=true:=by simp[b32]
    rw[this]
    cases decide (d<1)<;>cases decide (d>b)<;>cases t<;>rfl
   ·rw[if_pos (by simpa using b32)]
    have:((b==8||b==16)||b==32)=false:=by simp[b8,b16,b32]
    rw[this];rfl
end
end Go.Proofs.YtfcamlibbfnldaaGreat.Am
set_option maxRecDepth 100000
namespace Go.Proofs.YtfcamlibbfnldaaGreat.Am
open Go.Am
section
variable (b d:Int) (g t:Bool) (m0 m1 m2 s0 s1 s2:Int)
theorem bL (h:jm b d t m0 m1 m2 s0 s1 s2=true):(b=8∨b=16∨b=32)∧1≤d∧d≤b∧part b m0 s0=true∧part b m1 s1=true∧part b m2 s2=true:=by
 unfold jm at h
 simp only[Bool.and_eq_true,Bool.or_eq_true,Bool.not_eq_true',decide_eq_false_iff_not,beq_iff_eq] at h
 obtain⟨h1,h2,h3,_,h5,h6,h7,_⟩:=h
 exact⟨by rcases h1 with(h1|h1)|h1<;>simp[h1],by omega,by omega,h5,h6,h7⟩
def bY:Nat:=(M m0 s0 ||| M m1 s1) ||| M m2 s2
def lj (a:Nat):Nat×Nat:=if b=32∧d≤24 then (if a<16777216 then (3,0) else if a &&& 255=0 then (3,8) else (4,0)) else ((b / 8).toNat,0)
theorem t8 (hb:b=8∨b=16∨b=32) (a:Nat):1≤(lj b d a).1∧(lj b d a).1≤4∧((lj b d a).2=0∨(lj b d a).2=8∧(lj b d a).1=3):=by
 unfold lj
 split
 ·split
  ·exact⟨by decide,by decide,.inl rfl⟩
  ·split
   ·exact⟨by decide,by decide,.inr ⟨rfl,rfl⟩⟩
   ·exact⟨by decide,by decide,.inl rfl⟩
 ·rcases hb with rfl|rfl|rfl
  ·exact⟨by decide,by decide,.inl rfl⟩
  ·exact⟨by decide,by decide,.inl rfl⟩
  ·exact⟨by decide,by decide,.inl rfl⟩
theorem HP (L:List (Int×Int×Unit)) (hL3:L.length=3) (i k acc:Nat) (m s:Int) (hL:L[i]?=some (m,s,())) (hi:i<3) (hb:b≤32) (hp:part b m s=true) (ha:acc<4294967296) :
  cS 200000 (k+1) ((acc:Int),(i:Int),L,b,d,g,t,m0,m1,m2,s0,s1,s2)=cS 200000 k (((acc ||| M m s:Nat):Int),((i+1:Nat):Int),L,b,d,g,t,m0,m1,m2,s0,s1,s2):=by
 show lN 200000 (cS 200000 k) _=_
 generalize cS 200000 k=G
 simp only[lN,ae]
 obtain⟨k1,_,k3⟩:=bg hb hp
 rw[aK (by omega),if_pos (am (by omega)),Int.toNat_natCast,hL,Option.bind_some]
 simp only
 rw[k1,Option.bind_some,(ck ha k3).1,aQ (by omega) (by omega),show(i:Int)+1=((i+1:Nat):Int) by omega,Option.bind_fun_some]
theorem E5 (h:jm b d t m0 m1 m2 s0 s1 s2=true):X3 200000 (b,d,g,t,m0,m1,m2,s0,s1,s2)=some (((b / 8).toNat:Nat):Int):=by
 simp only[X3,ae]
 rw[dN,Option.bind_some,h]
 rcases(bL b d t m0 m1 m2 s0 s1 s2 h).1 with rfl|rfl|rfl<;>rfl
theorem q9 (h:jm b d t m0 m1 m2 s0 s1 s2=true):Fg 200000 (b,d,g,t,m0,m1,m2,s0,s1,s2)=some (((lj b d (bY m0 m1 m2 s0 s1 s2)).1:Int),((lj b d (bY m0 m1 m2 s0 s1 s2)).2:Int)):=by
 obtain⟨hb,hd1,hd2,p0,p1,p2⟩:=bL b d t m0 m1 m2 s0 s1 s2 h
 have hb32:b≤32:=by omega
 have q0:=(bg hb32 p0).2.2
 have q1:=(bg hb32 p1).2.2
 have q2:=(bg hb32 p2).2.2
 have a0:=HP b d g t m0 m1 m2 s0 s1 s2 [(m0,s0,()),(m1,s1,()),(m2,s2,())] rfl 0 199999 0 m0 s0 rfl (by omega) hb32 p0 (by omega)
 rw[Nat.zero_or] at a0
 have a1:=HP b d g t m0 m1 m2 s0 s1 s2 [(m0,s0,()),(m1,s1,()),(m2,s2,())] rfl 1 199998 (M m0 s0) m1 s1 rfl (by omega) hb32 p1 q0
 have a2:=HP b d g t m0 m1 m2 s0 s1 s2 [(m0,s0,()),(m1,s1,()),(m2,s2,())] rfl 2 199997 (M m0 s0 ||| M m1 s1) m2 s2 rfl (by omega) hb32 p2 (ck q0 q1).2
 have a3:∀acc:Int,cS 200000 (199996+1) (acc,((2+1:Nat):Int),[(m0,s0,()),(m1,s1,()),(m2,s2,())],b,d,g,t,m0,m1,m2,s0,s1,s2)=some (acc,b,d,g,t,m0,m1,m2,s0,s1,s2):=by
  intro acc
  show lN 200000 (cS 200000 199996) _=_
  simp only[lN,ae]
  rw[aL (by omega)]
 have hall:cS 200000 200000 (0,0,[(m0,s0,()),(m1,s1,()),(m2,s2,())],b,d,g,t,m0,m1,m2,s0,s1,s2)=some (((bY m0 m1 m2 s0 s1 s2:Nat):Int),b,d,g,t,m0,m1,m2,s0,s1,s2) :=
  (show _=cS 200000 (199999+1) (((0:Nat):Int),((0:Nat):Int),[(m0,s0,()),(m1,s1,()),(m2,s2,())],b,d,g,t,m0,m1,m2,s0,s1,s2) from rfl).trans (a0.trans (a1.trans (a2.trans (a3 _))))
 have qa:bY m0 m1 m2 s0 s1 s2<4294967296:=(ck (ck q0 q1).2 q2).2
 simp only[Fg,TP,ae,Option.bind_some]
 rw[dN,Option.bind_some,h]
 simp only[Bool.not_true,Bool.false_eq_true,if_false]
 rw[hall,Option.bind_some]
 simp only
 rw[E5 b d g t m0 m1 m2 s0 s1 s2 h,Option.bind_some]
 generalize bY m0 m1 m2 s0 s1 s2=a at *
 have e255:IntKind.wrap .i64 ((BitVec.toNat (BitVec.ofInt 64 (a:Int) &&& BitVec.ofInt 64 255):Nat):Int)=((a &&& 255:Nat):Int):=du qa (c:=255) (by omega)
 rw[e255]
 unfold lj
 by_cases h1:b<32
 ·rw[aK h1,if_neg (by omega)]
  rfl
 ·rw[aL h1]
  by_cases h2:d>24
  ·rw[aK h2,if_neg (by omega)]
   rfl
  ·rw[aL h2,if_pos (show b=32∧d≤24 from⟨by omega,by omega⟩)]
   by_cases h3:a<16777216
   ·rw[aK (by omega),if_pos h3]
    rfl
   ·rw[aL (by omega),if_neg h3]
    by_cases h4:a &&& 255=0
    ·rw[if_pos h4,if_pos (by simp[h4])]
     rfl
    ·rw[if_neg h4,if_neg (by simp only[beq_iff_eq];omega)]
     have:b=32:=by omega
     subst this
     rfl
theorem Fb (h:jm b d t m0 m1 m2 s0 s1 s2=true):TQ 200000 (b,d,g,t,m0,m1,m2,s0,s1,s2)=some (((lj b d (bY m0 m1 m2 s0 s1 s2)).1:Int),((lj b d (bY m0 m1 m2 s0 s1 s2)).2:Int)):=by
 obtain⟨hb,hd1,hd2,p0,p1,p2⟩:=bL b d t m0 m1 m2 s0 s1 s2 h
 have hb32:b≤32:=by omega
 obtain⟨_,k0,q0⟩:=bg hb32 p0
 obtain⟨_,k1,q1⟩:=bg hb32 p1
 obtain⟨_,k2,q2⟩:=bg hb32 p2
 have qa:bY m0 m1 m2 s0 s1 s2<4294967296:=(ck (ck q0 q1).2 q2).2
 have ea:IntKind.wrap .i64 ((BitVec.toNat (BitVec.ofInt 64 (IntKind.wrap .i64 ((BitVec.toNat (BitVec.ofInt 64 ((M m0 s0:Nat):Int) ||| BitVec.ofInt 64 ((M m1 s1:Nat):Int)):Nat):Int)) ||| BitVec.ofInt 64 ((M m2 s2:Nat):Int)):Nat):Int)=((bY m0 m1 m2 s0 s1 s2:Nat):Int):=by
  rw[(ck q0 q1).1,(ck (ck q0 q1).2 q2).1]
  rfl
 simp only[TQ,CP,ae]
 rw[k0,Option.bind_some,k1,Option.bind_some,k2,Option.bind_some,ea]
 generalize bY m0 m1 m2 s0 s1 s2=a at *
 have e255:IntKind.wrap .i64 ((BitVec.toNat (BitVec.ofInt 64 (a:Int) &&& BitVec.ofInt 64 255):Nat):Int)=((a &&& 255:Nat):Int):=du qa (c:=255) (by omega)
 rw[e255]
 unfold lj
 have e8:IntKind.wrap .i64 (Int.tdiv b 8)=(((b / 8).toNat:Nat):Int):=by rcases hb with rfl|rfl|rfl<;>rfl
 rw[e8]
 by_cases h1:b=32
 ·rw[if_pos (by simpa using h1)]
  by_cases h2:d≤24
  ·rw[aK h2,if_pos (show b=32∧d≤24 from⟨h1,h2⟩)]
   by_cases h3:a<16777216
   ·rw[aK (by omega),if_pos h3]
    rfl
   ·rw[aL (by omega),if_neg h3,if_pos (by simpa using h1),aK h2]
    by_cases h4:a &&& 255=0
    ·rw[if_pos h4,if_pos (by simp[h4])]
     rfl
    ·rw[if_neg h4,if_neg (by simp only[beq_iff_eq];omega)]
     subst h1
     rfl
  ·rw[aL h2,if_pos (by simpa using h1),aL h2,if_neg (show ¬(b=32∧d≤24) from fun h=>h2 h.2)]
   rfl
 ·rw[if_neg (by simpa using h1),if_neg (by simpa using h1),if_neg (show ¬(b=32∧d≤24) from fun h=>h1 h.1)]
  rfl
def up (v m s:Nat):Nat:=((v / 2^s &&& m)*255+m / 2) / m
theorem Df {v m s:Nat} (hm:1≤m):up v m s≤255:=by
 unfold up
 have h:v / 2^s &&& m≤m:=Nat.and_le_right
 have h2:(v / 2^s &&& m)*255+m / 2<256*m:=by omega
 have:=(Nat.div_lt_iff_lt_mul (by omega:0<m)).2 h2
 omega
theorem Xx {v m s:Nat} (hv:v<4294967296) (hm:1≤m) (hm2:m<65536) (hs:s≤31) :
  IntKind.wrap .i64 (Int.tdiv (IntKind.wrap .i64 (IntKind.wrap .i64 (IntKind.wrap .i64 ((BitVec.toNat (BitVec.ofInt 64 (Int.fdiv (v:Int) ((2:Int)^min (Int.toNat (s:Int)) 64)) &&& BitVec.ofInt 64 (m:Int)):Nat):Int)*255)+IntKind.wrap .i64 (Int.tdiv (m:Int) 2))) (m:Int))=((up v m s:Nat):Int):=by
 have e1:Int.fdiv (v:Int) ((2:Int)^min (Int.toNat (s:Int)) 64)=((v / 2^s:Nat):Int):=by
  rw[Int.toNat_natCast,Nat.min_eq_left (by omega),show(2:Int)^s=((2^s:Nat):Int) by simp,jS]
 have h0:v / 2^s≤v:=Nat.div_le_self _ _
 have h:v / 2^s &&& m≤m:=Nat.and_le_right
 rw[e1,du (by omega) (by omega),show Int.tdiv (m:Int) 2=((m / 2:Nat):Int) from rfl,aQ (n:=((v / 2^s &&& m:Nat):Int)*255) (by omega) (by omega),aQ (n:=((m / 2:Nat):Int)) (by omega) (by omega),aQ (n:=((v / 2^s &&& m:Nat):Int)*255+((m / 2:Nat):Int)) (by omega) (by omega)]
 rw[show((v / 2^s &&& m:Nat):Int)*255+((m / 2:Nat):Int)=(((v / 2^s &&& m)*255+m / 2:Nat):Int) by omega]
 rw[show Int.tdiv ((((v / 2^s &&& m)*255+m / 2:Nat)):Int) (m:Int)=((up v m s:Nat):Int) from rfl]
 have:=Df (v:=v) (s:=s) hm
 exact aQ (by omega) (by omega)
theorem QT {c u:Nat} (hc:c<4294967296) (hu:u<256):IntKind.wrap .i64 ((BitVec.toNat (BitVec.ofInt 64 (IntKind.wrap .i64 ((c:Int)*256)) ||| BitVec.ofInt 64 (u:Int)):Nat):Int)=((c*256+u:Nat):Int):=by
 rw[aQ (n:=(c:Int)*256) (by omega) (by omega),show(c:Int)*256=((c*256:Nat):Int) by omega]
 have e:(BitVec.ofInt 64 ((c*256:Nat):Int) ||| BitVec.ofInt 64 (u:Int)).toNat=c*256+u:=by
  rw[BitVec.toNat_or,BitVec.ofInt_natCast,BitVec.ofInt_natCast,BitVec.toNat_ofNat,BitVec.toNat_ofNat,Nat.mod_eq_of_lt (by omega),Nat.mod_eq_of_lt (by omega)]
  have:=Nat.two_pow_add_eq_or_of_lt (i:=8) (b:=u) hu c
  rw[show c*256=2^8*c by omega,←this]
 rw[e,aQ (by omega) (by omega)]
def dz (v:Nat):Nat:=up v m0.toNat s0.toNat*65536+up v m1.toNat s1.toNat*256+up v m2.toNat s2.toNat
theorem ua (L:List (Int×Int×Unit)) (hL3:L.length=3) (i k c v:Nat) (m s:Int) (hL:L[i]?=some (m,s,())) (hi:i<3) (hb:b≤32) (hp:part b m s=true) (hc:c<4294967296) (hv:v<4294967296) :
  cP 200000 (k+1) ((c:Int),(i:Int),L,(v:Int))=cP 200000 k (((c*256+up v m.toNat s.toNat:Nat):Int),((i+1:Nat):Int),L,(v:Int)):=by
 show lK 200000 (cP 200000 k) _=_
 generalize cP 200000 k=G
 obtain⟨m',s',rfl,rfl,h1,h2,h3,_⟩:=dG hb hp
 simp only[lK,ae]
 rw[aK (by omega),if_pos (am (by omega)),Int.toNat_natCast,hL,Option.bind_some]
 simp only
 have hu:=Df (v:=v) (s:=s') h1
 rw[aL (by omega),aL (by omega),Xx hv h1 h2 h3,QT hc (by omega),aQ (by omega) (by omega),show(i:Int)+1=((i+1:Nat):Int) by omega,Option.bind_fun_some,Int.toNat_natCast,Int.toNat_natCast]
theorem Iz (h:jm b d t m0 m1 m2 s0 s1 s2=true) (v:Nat) (hv:v<4294967296):F85 200000 (b,d,g,t,m0,m1,m2,s0,s1,s2,(v:Int))=some ((dz m0 m1 m2 s0 s1 s2 v:Nat):Int):=by
 obtain⟨hb,hd1,hd2,p0,p1,p2⟩:=bL b d t m0 m1 m2 s0 s1 s2 h
 have hb32:b≤32:=by omega
 have u0:up v m0.toNat s0.toNat≤255:=by obtain⟨m',s',rfl,rfl,h1,_⟩:=dG hb32 p0;exact Df (by rw[Int.toNat_natCast];exact h1)
 have u1:up v m1.toNat s1.toNat≤255:=by obtain⟨m',s',rfl,rfl,h1,_⟩:=dG hb32 p1;exact Df (by rw[Int.toNat_natCast];exact h1)
 have a0:=ua b [(m0,s0,()),(m1,s1,()),(m2,s2,())] rfl 0 199999 0 v m0 s0 rfl (by omega) hb32 p0 (by omega) hv
 have a1:=ua b [(m0,s0,()),(m1,s1,()),(m2,s2,())] rfl 1 199998 (0*256+up v m0.toNat s0.toNat) v m1 s1 rfl (by omega) hb32 p1 (by omega) hv
 have a2:=ua b [(m0,s0,()),(m1,s1,()),(m2,s2,())] rfl 2 199997 ((0*256+up v m0.toNat s0.toNat)*256+up v m1.toNat s1.toNat) v m2 s2 rfl (by omega) hb32 p2 (by omega) hv
 have a3:∀c:Int,cP 200000 (199996+1) (c,((2+1:Nat):Int),[(m0,s0,()),(m1,s1,()),(m2,s2,())],(v:Int))=some c:=by
  intro c
  show lK 200000 (cP 200000 199996) _=_
  simp only[lK,ae]
  rw[aL (by omega)]
 have hall:cP 200000 200000 (0,0,[(m0,s0,()),(m1,s1,()),(m2,s2,())],(v:Int))=some ((((0*256+up v m0.toNat s0.toNat)*256+up v m1.toNat s1.toNat)*256+up v m2.toNat s2.toNat:Nat):Int) :=
  (show _=cP 200000 (199999+1) (((0:Nat):Int),((0:Nat):Int),[(m0,s0,()),(m1,s1,()),(m2,s2,())],(v:Int)) from rfl).trans (a0.trans (a1.trans (a2.trans (a3 _))))
 simp only[F85,TP,ae,Option.bind_some]
 rw[dN,Option.bind_some,h]
 simp only[Bool.not_true,Bool.false_eq_true,if_false]
 rw[hall,Option.bind_some]
 unfold dz
 rw[show((0*256+up v m0.toNat s0.toNat)*256+up v m1.toNat s1.toNat)*256+up v m2.toNat s2.toNat=up v m0.toNat s0.toNat*65536+up v m1.toNat s1.toNat*256+up v m2.toNat s2.toNat by omega]
theorem FB (h:jm b d t m0 m1 m2 s0 s1 s2=true) (v:Nat) (hv:v<4294967296):Tl 200000 (b,d,g,t,m0,m1,m2,s0,s1,s2,(v:Int))=some ((dz m0 m1 m2 s0 s1 s2 v:Nat):Int):=by
 obtain⟨hb,hd1,hd2,p0,p1,p2⟩:=bL b d t m0 m1 m2 s0 s1 s2 h
 have hb32:b≤32:=by omega
 have one:∀m s:Int,part b m s=true→IJ 200000 ((v:Int),m,s)=some ((up v m.toNat s.toNat:Nat):Int)∧up v m.toNat s.toNat≤255:=by
  intro m s hp
  obtain⟨m',s',rfl,rfl,h1,h2,h3,_⟩:=dG hb32 hp
  simp only[IJ,ae]
  rw[aL (by omega),aL (by omega),Xx hv h1 h2 h3,Int.toNat_natCast,Int.toNat_natCast]
  exact⟨rfl,Df h1⟩
 obtain⟨e0,u0⟩:=one m0 s0 p0
 obtain⟨e1,u1⟩:=one m1 s1 p1
 obtain⟨e2,u2⟩:=one m2 s2 p2
 simp only[Tl]
 rw[e0,Option.bind_some,e1,Option.bind_some,e2,Option.bind_some]
 unfold dz
 generalize up v m0.toNat s0.toNat=x0 at *
 generalize up v m1.toNat s1.toNat=x1 at *
 generalize up v m2.toNat s2.toNat=x2 at *
 rw[aQ (n:=(x0:Int)*65536) (by omega) (by omega),aQ (n:=(x1:Int)*256) (by omega) (by omega),aQ (n:=(x0:Int)*65536+(x1:Int)*256) (by omega) (by omega),aQ (by omega) (by omega)]
 congr 1
theorem Rx:dz m0 m1 m2 s0 s1 s2 0=0:=by
 have:∀m s:Nat,up 0 m s=0:=by
  intro m s
  unfold up
  rw[Nat.zero_div,Nat.zero_and,Nat.zero_mul,Nat.zero_add]
  rcases Nat.eq_zero_or_pos m with rfl|h
  ·rfl
  ·exact Nat.div_eq_of_lt (by omega)
 unfold dz
 rw[this,this,this]
end
end Go.Proofs.YtfcamlibbfnldaaGreat.Am
set_option maxRecDepth 100000
namespace Go.Proofs.YtfcamlibbfnldaaGreat.Am
open Go.Am
def aD (l:List UInt8) (n p:Nat) (e:Int):List UInt8×Nat×Int :=
 if e=0 then (if p+n≤l.length then ((l.drop p).take n,p+n,0) else ([],p,2)) else ([],p,e)
def iH (e:Int):Prop:=e=0∨e=2
theorem bM (l:List UInt8) (n p:Nat) (e:Int) (hp:p≤l.length) (he:iH e):(aD l n p e).2.1≤l.length∧iH (aD l n p e).2.2∧p≤(aD l n p e).2.1∧((aD l n p e).1=[]∨(aD l n p e).1.length=n∧(aD l n p e).2.2=0∧(aD l n p e).2.1=p+n):=by
 unfold aD
 split
 ·split
  ·rename_i h1 h2
   exact⟨h2,.inl rfl,by simp,.inr ⟨by simp;omega,rfl,rfl⟩⟩
  ·exact⟨hp,.inr rfl,Nat.le_refl _,.inl rfl⟩
 ·exact⟨hp,he,Nat.le_refl _,.inl rfl⟩
theorem C2 (l:List UInt8) (n p:Nat) (e:Int) (hp:p≤l.length) (he:iH e) (hl:l.length≤100000):mW 200000 ((n:Int),B l,(p:Int),e)=some (B (aD l n p e).1,B l,(((aD l n p e).2.1:Nat):Int),(aD l n p e).2.2):=by
 unfold aD
 rcases he with rfl|rfl
 ·rw[if_pos rfl]
  by_cases h:p+n≤l.length
  ·rw[if_pos h]
   exact Xv l n p h (by omega)
  ·rw[if_neg h]
   exact Po l n p (by omega) hp (by omega)
 ·rw[if_neg (by decide)]
  exact Tu l n p hp (by omega)
theorem CZ (l:List UInt8) (n p:Nat) (e:Int) (hp:p≤l.length) (he:iH e) (hl:l.length≤100000) (hn:n≤100000):Fv 200000 ((n:Int),B l,(p:Int),e)=some (B (aD l n p e).1,B l,(((aD l n p e).2.1:Nat):Int),(aD l n p e).2.2):=by
 have w1:IntKind.wrap .i64 (((B l).size:Int)-(p:Int))=((l.length-p:Nat):Int):=by rw[az,aQ (by omega) (by omega)];omega
 have w2:IntKind.wrap .i64 ((p:Int)+(n:Int))=((p+n:Nat):Int):=by rw[aQ (by omega) (by omega)];omega
 unfold aD
 simp only[Fv,ae,w1,w2,Int.toNat_natCast]
 rcases he with rfl|rfl
 ·rw[if_neg (by decide),if_pos rfl,aL (by omega)]
  by_cases h:p+n≤l.length
  ·rw[if_pos h,aL (by omega),aK (by rw[az];omega),aK (by omega),Ml,show p+n-p=n by omega]
  ·rw[if_neg h,aK (by omega)]
   rfl
 ·rw[if_pos (by decide),if_neg (by decide)]
  rfl
theorem Et (l:List UInt8) (x:UInt8):mB (l++[x])=x.toNat+256*mB l:=by unfold mB;simp[Aq]
theorem Ff (l:List UInt8) (hl:l.length≤4):∀(suf pre:List UInt8) (k:Nat),l=pre++suf→suf.length<k →
  mU 200000 k (((mB pre:Nat):Int),((pre.length:Nat):Int),B l)=some ((mB l:Nat):Int)
 | [],pre,k+1,h,_=>by
  have:pre=l:=by rw[h];simp
  subst this
  show wu 200000 (mU 200000 k) _=_
  simp only[wu,ae]
  rw[aL (by rw[az];omega)]
 | x::r,pre,k+1,h,hk=>by
  have hn:l.length=pre.length+r.length+1:=by rw[h];simp;omega
  have ih:=Ff l hl r (pre++[x]) k (by rw[h];simp) (by simp at hk;omega)
  rw[show(pre++[x]).length=pre.length+1 by simp,Et] at ih
  show wu 200000 (mU 200000 k) _=_
  generalize mU 200000 k=G at *
  simp only[wu,ae]
  have hg:l[pre.length]?=some x:=by rw[h];simp
  have hb:=AS (l:=pre) (by omega)
  have:=x.toNat_lt
  rw[aK (by rw[az];omega),aK (by omega),Int.toNat_natCast,GA,hg,Option.bind_some,G6,aQ (n:=((mB pre:Nat):Int)*256) (by omega) (by omega),aQ (by omega) (by omega),aQ (by omega) (by omega)]
  rw[show((mB pre:Nat):Int)*256+(x.toNat:Int)=((x.toNat+256*mB pre:Nat):Int) by omega,show((pre.length:Nat):Int)+1=((pre.length+1:Nat):Int) by omega,ih,Option.bind_some]
theorem IA (l:List UInt8) (hl:l.length≤4):F56 200000 (B l)=some ((mB l:Nat):Int):=by
 simp only[F56]
 have:=Ff l hl l [] 200000 rfl (by omega)
 show Option.bind (mU 200000 200000 (((mB []:Nat):Int),((([]:List UInt8).length:Nat):Int),B l)) _=_
 rw[this,Option.bind_some]
def au (l:List UInt8) (p:Nat) (e:Int):Nat:=mB (aD l 1 p e).1
theorem k9 (l:List UInt8) (p:Nat) (e:Int):au l p e<256:=by
 unfold au aD
 split
 ·split
  ·have:=tO ((l.drop p).take 1).reverse
   rw[List.length_reverse,List.length_take] at this
   have h2:256^(min 1 (l.drop p).length)≤256^1:=Nat.pow_le_pow_right (by decide) (Nat.min_le_left _ _)
   show mB ((l.drop p).take 1)<256
   unfold mB
   omega
  ·show mB []<256
   decide
 ·show mB []<256
  decide
theorem ab6 {l:List UInt8} (h:l.length≤1):l=[]∨∃x,l=[x]:=by
 match l,h with
 | [],_=>exact .inl rfl
 | [x],_=>exact .inr ⟨x,rfl⟩
theorem nz (l:List UInt8) (n p:Nat) (e:Int):(aD l n p e).1.length≤n:=by
 unfold aD
 split
 ·split
  ·simp;omega
  ·simp
 ·simp
theorem ky (l:List UInt8) (p:Nat) (e:Int) (hp:p≤l.length) (he:iH e) (hl:l.length≤100000):v8 200000 (1,B l,(p:Int),e)=some ((au l p e:Int),B l,(((aD l 1 p e).2.1:Nat):Int),(aD l 1 p e).2.2):=by
 have hB:=C2 l 1 p e hp he hl
 unfold au
 have h1:=nz l 1 p e
 generalize aD l 1 p e=r at *
 rcases ab6 h1 with h|⟨x,h⟩
 ·rw[h] at hB ⊢
  exact Fy [] [] (by simp) rfl 1 _ _ _ _ _ _ rfl hB ar4
 ·rw[h] at hB ⊢
  have:=Fy [x] [x] (by simp) rfl 1 _ _ _ _ _ _ rfl hB (ar3 x)
  rw[this]
  simp[mB]
theorem kw (l:List UInt8) (p:Nat) (e:Int) (hp:p≤l.length) (he:iH e) (hl:l.length≤100000):To 200000 (1,B l,(p:Int),e)=some ((au l p e:Int),B l,(((aD l 1 p e).2.1:Nat):Int),(aD l 1 p e).2.2):=by
 have hB:=CZ l 1 p e hp he hl (by omega)
 unfold au
 have h1:=nz l 1 p e
 simp only[To,aI3,ae]
 generalize aD l 1 p e=r at *
 have hB':Fv 200000 (1,B l,(p:Int),e)=some (B r.1,B l,((r.2.1:Nat):Int),r.2.2):=hB
 rw[hB',Option.bind_some]
 simp only
 rw[IA _ (by omega),Option.bind_some]
 rcases he with rfl|rfl
 ·rw[if_pos (by decide),if_pos (by decide),Option.bind_some,if_neg (by decide)]
 ·rw[if_neg (by decide)]
def DV (g:Bool) (l:List UInt8):List UInt8:=if g=true then l else l.reverse
theorem dH (g:Bool) (l:List UInt8):(DV g l).length=l.length:=by unfold DV;split<;>simp
def vl (g:Bool) (sz sh:Nat) (l:List UInt8):Nat:=if l.length<sz then 0 else mB (DV g l)*2^sh
theorem yT (l:List UInt8) (hl:l.length≤1000):∀(suf pre:List UInt8) (k:Nat),l=pre++suf→suf.length<k →
  i7 200000 k (B pre.reverse,((pre.length:Nat):Int),B l)=some (B l.reverse)
 | [],pre,k+1,h,_=>by
  have:pre=l:=by rw[h];simp
  subst this
  show oP 200000 (i7 200000 k) _=_
  simp only[oP,ae]
  rw[aL (by rw[az];omega)]
 | x::r,pre,k+1,h,hk=>by
  have hn:l.length=pre.length+r.length+1:=by rw[h];simp;omega
  have ih:=yT l hl r (pre++[x]) k (by rw[h];simp) (by simp at hk;omega)
  rw[show(pre++[x]).length=pre.length+1 by simp,show(pre++[x]).reverse=[x]++pre.reverse by simp] at ih
  show oP 200000 (i7 200000 k) _=_
  generalize i7 200000 k=G at *
  simp only[oP,ae]
  have he:(l.drop pre.length).take 1=[x]:=by rw[h];simp
  have w:IntKind.wrap .i64 (((pre.length:Nat):Int)+1)=((pre.length+1:Nat):Int):=by rw[aQ (by omega) (by omega)];omega
  simp only[w,Int.toNat_natCast,Ml]
  rw[show pre.length+1-pre.length=1 by omega,he,aK (by rw[az];omega),aK (by rw[az];omega),aK (by omega),aL (by rw[az,az];simp;omega),il,ih,Option.bind_some]
theorem O5 (l:List UInt8) (hl:l.length≤1000):an9 200000 (B l)=some (B l.reverse):=by
 have h:=yT l hl l [] 200000 rfl (by omega)
 simp only[an9]
 show Option.bind (i7 200000 200000 (B ([]:List UInt8).reverse,((([]:List UInt8).length:Nat):Int),B l)) _=_
 rw[h,Option.bind_some]
section
variable (b d:Int) (g t:Bool) (m0 m1 m2 s0 s1 s2:Int) (sz sh:Nat)
theorem yW (l:List UInt8) (hl:l.length=sz) (h4:sz≤4):∀(suf pre:List UInt8) (k:Nat),DV g l=pre++suf→suf.length<k →
  dv 200000 k (((mB pre:Nat):Int),((pre.length:Nat):Int),(sz:Int),(sz:Int),B l,b,d,g,t,m0,m1,m2,s0,s1,s2)=some ((mB (DV g l):Nat):Int)
 | [],pre,k+1,h,_=>by
  have hp:pre=DV g l:=by rw[h];simp
  have:pre.length=sz:=by rw[hp,dH,hl]
  show ir 200000 (dv 200000 k) _=_
  simp only[ir,ae]
  rw[aL (by omega),hp]
 | x::r,pre,k+1,h,hk=>by
  have hn:sz=pre.length+r.length+1:=by have:=dH g l;rw[h,hl] at this;simp at this;omega
  have ih:=yW l hl h4 r (pre++[x]) k (by rw[h];simp) (by simp at hk;omega)
  rw[show(pre++[x]).length=pre.length+1 by simp,Et] at ih
  show ir 200000 (dv 200000 k) _=_
  generalize dv 200000 k=G at *
  simp only[ir,ae]
  have hb:=AS (l:=pre) (by omega)
  have hx:=x.toNat_lt
  have hg:(DV g l)[pre.length]?=some x:=by rw[h];simp
  have hor:=QT hb (u:=x.toNat) (by omega)
  rw[aK (by omega),aQ (n:=((pre.length:Nat):Int)+1) (by omega) (by omega),show((pre.length:Nat):Int)+1=((pre.length+1:Nat):Int) by omega]
  cases g with
  | true =>
   rw[if_pos rfl,aK (by omega),Int.toNat_natCast,GA,show l[pre.length]?=some x from hg,Option.bind_some,G6,hor,show mB pre*256+x.toNat=x.toNat+256*mB pre by omega,ih,Option.bind_some]
  | false =>
   have e:IntKind.wrap .i64 (IntKind.wrap .i64 ((sz:Int)-1)-((pre.length:Nat):Int))=((sz-1-pre.length:Nat):Int):=by
    rw[aQ (n:=(sz:Int)-1) (by omega) (by omega),aQ (by omega) (by omega)]
    omega
   have hg2:l[sz-1-pre.length]?=some x:=by
    have:(DV false l)[pre.length]?=l.reverse[pre.length]?:=rfl
    rw[this,List.getElem?_reverse (by omega),hl] at hg
    exact hg
   rw[if_neg (by decide),e,aK (by omega),Int.toNat_natCast,GA,hg2,Option.bind_some,G6,hor,show mB pre*256+x.toNat=x.toNat+256*mB pre by omega,ih,Option.bind_some]
theorem PV (h4:sz≤4) (hsh:sh=0∨sh=8∧sz=3) (l:List UInt8) (hl:l.length≤sz):vl g sz sh l<4294967296:=by
 unfold vl
 split
 ·omega
 ·have h:=tO (DV g l).reverse
  rw[List.length_reverse,dH] at h
  have h2:256^l.length≤256^sz:=Nat.pow_le_pow_right (by decide) hl
  unfold mB
  rcases hsh with rfl|⟨rfl,rfl⟩
  ·have h3:256^sz≤256^4:=Nat.pow_le_pow_right (by decide) h4
   have h6:(256:Nat)^4=4294967296:=by decide
   omega
  ·have h6:(256:Nat)^3=16777216:=by decide
   omega
theorem sX (hsh:sh=0∨sh=8∧sz=3) {n:Nat} (hn:n<4294967296):IntKind.wrap .i64 ((n:Int)*(2:Int)^min (Int.toNat (sh:Int)) 64)=((n*2^sh:Nat):Int):=by
 rcases hsh with rfl|⟨rfl,_⟩
 ·rw[show(2:Int)^min (Int.toNat ((0:Nat):Int)) 64=1 from rfl,aQ (by omega) (by omega)]
  omega
 ·rw[show(2:Int)^min (Int.toNat ((8:Nat):Int)) 64=256 from rfl,aQ (by omega) (by omega)]
  omega
theorem Tb (hv:jm b d t m0 m1 m2 s0 s1 s2=true) (h37:Fg 200000 (b,d,g,t,m0,m1,m2,s0,s1,s2)=some ((sz:Int),(sh:Int))) (h1:1≤sz) (h4:sz≤4) (hsh:sh=0∨sh=8∧sz=3) (l:List UInt8) (hl:l=[]∨l.length=sz) :
  ∃e,Tc 200000 (b,d,g,t,m0,m1,m2,s0,s1,s2,B l)=some (((vl g sz sh l:Nat):Int),e):=by
 simp only[Tc,Xl,ae]
 rw[h37,Option.bind_some,dN,Option.bind_some,hv]
 simp only[Bool.not_true,Bool.false_eq_true,if_false]
 unfold vl
 rcases hl with rfl|hl
 ·rw[aK (by rw[az];simp;omega),Option.bind_some,aL (by omega),if_pos (by simp;omega)]
  exact⟨_,by have:=sX sz sh hsh (n:=0) (by omega);rw[Nat.zero_mul] at this;rw[show(0:Int)=((0:Nat):Int) from rfl,this]⟩
 ·have hloop:=yW b d g t m0 m1 m2 s0 s1 s2 sz l hl h4 (DV g l) [] 200000 rfl (by rw[dH];omega)
  have hb:=AS (l:=DV g l) (by rw[dH];omega)
  rw[aL (by rw[az];omega)]
  have hloop':dv 200000 200000 (0,0,(sz:Int),(sz:Int),B l,b,d,g,t,m0,m1,m2,s0,s1,s2)=some ((mB (DV g l):Nat):Int):=hloop
  rw[hloop',Option.bind_some,Option.bind_some,aL (by omega),if_neg (by omega),sX sz sh hsh hb]
  exact⟨_,rfl⟩
theorem S9 (h87:TQ 200000 (b,d,g,t,m0,m1,m2,s0,s1,s2)=some ((sz:Int),(sh:Int))) (h1:1≤sz) (h4:sz≤4) (hsh:sh=0∨sh=8∧sz=3) (l:List UInt8) (hl:l=[]∨l.length=sz) :
  ∃e,ao8 200000 (b,d,g,t,m0,m1,m2,s0,s1,s2,B l)=some (((vl g sz sh l:Nat):Int),e):=by
 simp only[ao8,aI2,ae]
 rw[h87,Option.bind_some]
 simp only
 unfold vl
 rcases hl with rfl|hl
 ·rw[aK (by rw[az];simp;omega),Option.bind_some,aL (by omega),if_pos (by simp;omega)]
  exact⟨_,by have:=sX sz sh hsh (n:=0) (by omega);rw[Nat.zero_mul] at this;rw[show(0:Int)=((0:Nat):Int) from rfl,this]⟩
 ·have hb:=AS (l:=DV g l) (by rw[dH];omega)
  have hx:(B l).extract 0 (Int.toNat (sz:Int))=B l:=by
   rw[Int.toNat_natCast,Ml,List.drop_zero,List.take_of_length_le (by omega)]
  rw[aL (by rw[az];omega),aK (by rw[az];omega),hx]
  cases g with
  | true =>
   rw[if_pos rfl,IA _ (by omega),Option.bind_some,Option.bind_some,aL (by omega),if_neg (by omega)]
   have:=sX sz sh hsh hb
   exact⟨_,by rw[show DV true l=l from rfl] at *;rw[this]⟩
  | false =>
   rw[if_neg (by decide),aK (by rw[az];omega),O5 _ (by omega),Option.bind_some,IA _ (by rw[List.length_reverse];omega),Option.bind_some,Option.bind_some,aL (by omega),if_neg (by omega)]
   have:=sX sz sh hsh hb
   exact⟨_,by rw[show DV false l=l.reverse from rfl] at *;rw[this]⟩
def jr (l:List UInt8) (p:Nat) (e:Int):Nat:=vl g sz sh (aD l sz p e).1
theorem JC (l:List UInt8) (n p:Nat) (e:Int) (hp:p≤l.length) (he:iH e):(aD l n p e).1=[]∨(aD l n p e).1.length=n:=by
 rcases(bM l n p e hp he).2.2.2 with h|h
 ·exact .inl h
 ·exact .inr h.1
theorem v6 (hv:jm b d t m0 m1 m2 s0 s1 s2=true) (h37:Fg 200000 (b,d,g,t,m0,m1,m2,s0,s1,s2)=some ((sz:Int),(sh:Int))) (h1:1≤sz) (h4:sz≤4) (hsh:sh=0∨sh=8∧sz=3) (l:List UInt8) (p:Nat) (e:Int) (hp:p≤l.length) (he:iH e) (hl:l.length≤100000) :
  IQ 200000 (b,d,g,t,m0,m1,m2,s0,s1,s2,(sz:Int),B l,(p:Int),e)=some (((jr g sz sh l p e:Nat):Int),B l,(((aD l sz p e).2.1:Nat):Int),(aD l sz p e).2.2):=by
 obtain⟨e',h⟩:=Tb b d g t m0 m1 m2 s0 s1 s2 sz sh hv h37 h1 h4 hsh (aD l sz p e).1 (JC l sz p e hp he)
 simp only[IQ]
 rw[C2 l sz p e hp he hl,Option.bind_some]
 simp only
 rw[h,Option.bind_some]
 rfl
theorem vZ (h87:TQ 200000 (b,d,g,t,m0,m1,m2,s0,s1,s2)=some ((sz:Int),(sh:Int))) (h1:1≤sz) (h4:sz≤4) (hsh:sh=0∨sh=8∧sz=3) (l:List UInt8) (p:Nat) (e:Int) (hp:p≤l.length) (he:iH e) (hl:l.length≤100000) :
  Tm 200000 (b,d,g,t,m0,m1,m2,s0,s1,s2,(sz:Int),B l,(p:Int),e)=some (((jr g sz sh l p e:Nat):Int),b,d,g,t,m0,m1,m2,s0,s1,s2,(sz:Int),B l,(((aD l sz p e).2.1:Nat):Int),(aD l sz p e).2.2):=by
 obtain⟨e',h⟩:=S9 b d g t m0 m1 m2 s0 s1 s2 sz sh h87 h1 h4 hsh (aD l sz p e).1 (JC l sz p e hp he)
 simp only[Tm]
 rw[CZ l sz p e hp he hl (by omega),Option.bind_some]
 simp only
 rw[h,Option.bind_some]
 rfl
end
end Go.Proofs.YtfcamlibbfnldaaGreat.Am
set_option maxRecDepth 100000
namespace Go.Proofs.YtfcamlibbfnldaaGreat.Am
open Go.Am
def nl (l:List Nat):List Int:=l.map fun(v:Nat)=>((v:Nat):Int)
theorem aj (l:List Nat):(nl l).length=l.length:=by unfold nl;simp
theorem dI (l k:List Nat):nl l++nl k=nl (l++k):=by unfold nl;simp
theorem gv (v:Nat):[(v:Int)]=nl [v]:=rfl
theorem cW {l:List Nat} {i:Nat} (h:i<l.length):(nl l)[i]?=some ((l.getD i 0:Nat):Int):=by
 unfold nl
 rw[List.getElem?_map,List.getD,List.getElem?_eq_getElem h]
 rfl
section
variable (b d:Int) (g t:Bool) (m0 m1 m2 s0 s1 s2:Int) (sz sh:Nat) (l:List UInt8)
def aN:Nat→Nat→Int→List Nat→Nat×Int×List Nat
 | 0,p,e,acc=>(p,e,acc)
 | n+1,p,e,acc=>aN n (aD l sz p e).2.1 (aD l sz p e).2.2 (acc++[jr g sz sh l p e])
theorem dZ (h4:sz≤4) (hsh:sh=0∨sh=8∧sz=3):∀(n p:Nat) (e:Int) (acc:List Nat),p≤l.length→iH e→(∀v∈acc,v<4294967296) →
  (aN g sz sh l n p e acc).1≤l.length∧iH (aN g sz sh l n p e acc).2.1∧(aN g sz sh l n p e acc).2.2.length=acc.length+n∧∀v∈(aN g sz sh l n p e acc).2.2,v<4294967296
 | 0,p,e,acc,hp,he,ha=>⟨hp,he,rfl,ha⟩
 | n+1,p,e,acc,hp,he,ha=>by
  obtain⟨h1,h2,_,_⟩:=bM l sz p e hp he
  have hv:=PV g sz sh h4 hsh (aD l sz p e).1 (nz l sz p e)
  obtain⟨k1,k2,k3,k4⟩:=dZ h4 hsh n (aD l sz p e).2.1 (aD l sz p e).2.2 (acc++[jr g sz sh l p e]) h1 h2 (by
   intro v hv2
   rcases List.mem_append.1 hv2 with h|h
   ·exact ha v h
   ·rw[List.mem_singleton] at h;rw[h];exact hv)
  exact⟨k1,k2,by unfold aN;rw[k3];simp;omega,k4⟩
variable (hv:jm b d t m0 m1 m2 s0 s1 s2=true) (h37:Fg 200000 (b,d,g,t,m0,m1,m2,s0,s1,s2)=some ((sz:Int),(sh:Int))) (h87:TQ 200000 (b,d,g,t,m0,m1,m2,s0,s1,s2)=some ((sz:Int),(sh:Int))) (h1:1≤sz) (h4:sz≤4) (hsh:sh=0∨sh=8∧sz=3) (hl:l.length≤100000)
include hv h37 h87 h1 h4 hsh hl
theorem zn:∀(j i p k:Nat) (e:Int) (acc:List Nat),p≤l.length→iH e→j<k→i+j≤100000→acc.length+j≤100000 →
  eM 200000 k ((i:Int),((i+j:Nat):Int),B l,(p:Int),e,nl acc,b,d,g,t,m0,m1,m2,s0,s1,s2,(sz:Int))=some (B l,(((aN g sz sh l j p e acc).1:Nat):Int),(aN g sz sh l j p e acc).2.1,nl (aN g sz sh l j p e acc).2.2)
 | 0,i,p,k+1,e,acc,hp,he,hk,hi,ha=>by
  show lV 200000 (eM 200000 k) _=_
  simp only[lV,ae]
  rw[aL (by omega)]
  rfl
 | j+1,i,p,k+1,e,acc,hp,he,hk,hi,ha=>by
  obtain⟨q1,q2,_,_⟩:=bM l sz p e hp he
  have ih:=zn j (i+1) (aD l sz p e).2.1 k (aD l sz p e).2.2 (acc++[jr g sz sh l p e]) q1 q2 (by omega) (by omega) (by rw[List.length_append];simp;omega)
  show lV 200000 (eM 200000 k) _=_
  generalize eM 200000 k=G at *
  simp only[lV,ae]
  rw[aK (by omega),v6 b d g t m0 m1 m2 s0 s1 s2 sz sh hv h37 h1 h4 hsh l p e hp he hl,Option.bind_some]
  simp only
  rw[aK (by rw[aj];simp;omega),gv,dI,aQ (by omega) (by omega),show(i:Int)+1=((i+1:Nat):Int) by omega,show i+(j+1)=i+1+j by omega,ih,Option.bind_some]
  rfl
theorem qt (n p:Nat) (e:Int) (hp:p≤l.length) (he:iH e) (hn:n≤100000) :
  IR 200000 (b,d,g,t,m0,m1,m2,s0,s1,s2,(sz:Int),(n:Int),B l,(p:Int),e)=some (B l,(((aN g sz sh l n p e []).1:Nat):Int),(aN g sz sh l n p e []).2.1,nl (aN g sz sh l n p e []).2.2):=by
 have h:=zn b d g t m0 m1 m2 s0 s1 s2 sz sh l hv h37 h87 h1 h4 hsh hl n 0 p 200000 e [] hp he (by omega) (by omega) (by simp;omega)
 rw[Nat.zero_add] at h
 simp only[IR]
 show Option.bind (eM 200000 200000 (((0:Nat):Int),(n:Int),B l,(p:Int),e,nl [],b,d,g,t,m0,m1,m2,s0,s1,s2,(sz:Int))) _=_
 rw[h,Option.bind_some]
theorem zj:∀(j i p k:Nat) (e:Int) (acc:List Nat),p≤l.length→iH e→j<k→i+j≤100000→acc.length+j≤100000 →
  jc 200000 k ((i:Int),((i+j:Nat):Int),b,d,g,t,m0,m1,m2,s0,s1,s2,(sz:Int),B l,(p:Int),e,nl acc)=some (b,d,g,t,m0,m1,m2,s0,s1,s2,(sz:Int),B l,(((aN g sz sh l j p e acc).1:Nat):Int),(aN g sz sh l j p e acc).2.1,nl (aN g sz sh l j p e acc).2.2)
 | 0,i,p,k+1,e,acc,hp,he,hk,hi,ha=>by
  show oR 200000 (jc 200000 k) _=_
  simp only[oR,ae]
  rw[aL (by omega)]
  rfl
 | j+1,i,p,k+1,e,acc,hp,he,hk,hi,ha=>by
  obtain⟨q1,q2,_,_⟩:=bM l sz p e hp he
  have ih:=zj j (i+1) (aD l sz p e).2.1 k (aD l sz p e).2.2 (acc++[jr g sz sh l p e]) q1 q2 (by omega) (by omega) (by rw[List.length_append];simp;omega)
  show oR 200000 (jc 200000 k) _=_
  generalize jc 200000 k=G at *
  simp only[oR,ae]
  rw[aK (by omega),vZ b d g t m0 m1 m2 s0 s1 s2 sz sh h87 h1 h4 hsh l p e hp he hl,Option.bind_some]
  simp only
  rw[aK (by rw[aj];simp;omega),gv,dI,aQ (by omega) (by omega),show(i:Int)+1=((i+1:Nat):Int) by omega,show i+(j+1)=i+1+j by omega,ih,Option.bind_some]
  rfl
theorem qs (n p:Nat) (e:Int) (hp:p≤l.length) (he:iH e) (hn:n≤100000) :
  Tn 200000 ((n:Int),b,d,g,t,m0,m1,m2,s0,s1,s2,(sz:Int),B l,(p:Int),e)=some (b,d,g,t,m0,m1,m2,s0,s1,s2,(sz:Int),B l,(((aN g sz sh l n p e []).1:Nat):Int),(aN g sz sh l n p e []).2.1,nl (aN g sz sh l n p e []).2.2):=by
 have h:=zj b d g t m0 m1 m2 s0 s1 s2 sz sh l hv h37 h87 h1 h4 hsh hl n 0 p 200000 e [] hp he (by omega) (by omega) (by simp;omega)
 rw[Nat.zero_add] at h
 simp only[Tn]
 show Option.bind (jc 200000 200000 (((0:Nat):Int),(n:Int),b,d,g,t,m0,m1,m2,s0,s1,s2,(sz:Int),B l,(p:Int),e,nl [])) _=_
 rw[h,Option.bind_some]
end
section
variable (b d:Int) (g t:Bool) (m0 m1 m2 s0 s1 s2:Int) (sz:Nat) (l:List UInt8)
def cw:Nat→Nat→Int→Nat→Nat×Nat×Int
 | 0,p,e,n=>(n,p,e)
 | k+1,p,e,n=>if au l p e=255 then cw k (aD l 1 p e).2.1 (aD l 1 p e).2.2 (n+255) else (n+au l p e,(aD l 1 p e).2.1,(aD l 1 p e).2.2)
theorem Ag (p:Nat) (e:Int) (h:au l p e=255):(aD l 1 p e).2.1=p+1∧p+1≤l.length:=by
 unfold au at h
 unfold aD at h ⊢
 split
 ·rename_i h0
  rw[if_pos h0] at h
  split
  ·rename_i h1
   exact⟨rfl,h1⟩
  ·rename_i h1
   rw[if_neg h1] at h
   exact absurd (show mB []=255 from h) (by decide)
 ·rename_i h0
  rw[if_neg h0] at h
  exact absurd (show mB []=255 from h) (by decide)
theorem An:∀(k p:Nat) (e:Int) (n:Nat),p≤l.length→iH e→1≤n→l.length-p<k→(cw l k p e n).2.1≤l.length∧iH (cw l k p e n).2.2∧n≤(cw l k p e n).1∧p≤(cw l k p e n).2.1
 | k+1,p,e,n,hp,he,hn,hk=>by
  obtain⟨q1,q2,q3,_⟩:=bM l 1 p e hp he
  unfold cw
  split
  ·rename_i h
   obtain⟨h1,h2⟩:=Ag l p e h
   obtain⟨r1,r2,r3,r4⟩:=An k (aD l 1 p e).2.1 (aD l 1 p e).2.2 (n+255) q1 q2 (by omega) (by omega)
   exact⟨r1,r2,by omega,by omega⟩
  ·exact⟨q1,q2,by simp,q3⟩
theorem yV (hl:l.length≤100000):∀(j p k:Nat) (e:Int) (n:Nat),p≤l.length→iH e→l.length-p<j→j<k→n+255*j≤100000000 →
  dW 200000 k (255,(n:Int),B l,(p:Int),e,b,d,g,t,m0,m1,m2,s0,s1,s2,(sz:Int))=some (((cw l j p e n).1:Int),B l,(((cw l j p e n).2.1:Nat):Int),(cw l j p e n).2.2)
 | j+1,p,k+1,e,n,hp,he,hj,hk,hn=>by
  obtain⟨q1,q2,_,_⟩:=bM l 1 p e hp he
  have hb:=k9 l p e
  have go:dW 200000 (k+1) (255,(n:Int),B l,(p:Int),e,b,d,g,t,m0,m1,m2,s0,s1,s2,(sz:Int))=dW 200000 k ((au l p e:Int),((n+au l p e:Nat):Int),B l,(((aD l 1 p e).2.1:Nat):Int),(aD l 1 p e).2.2,b,d,g,t,m0,m1,m2,s0,s1,s2,(sz:Int)):=by
   show lQ 200000 (dW 200000 k) _=_
   generalize dW 200000 k=G at *
   simp only[lQ,ae]
   rw[if_pos (by decide),ky l p e hp he hl,Option.bind_some]
   simp only
   rw[aQ (by omega) (by omega),show(n:Int)+(au l p e:Int)=((n+au l p e:Nat):Int) by omega,Option.bind_fun_some]
  rw[go]
  unfold cw
  split
  ·rename_i h
   obtain⟨h1,h2⟩:=Ag l p e h
   rw[h]
   exact yV hl j (aD l 1 p e).2.1 k (aD l 1 p e).2.2 (n+255) q1 q2 (by omega) (by omega) (by omega)
  ·rename_i h
   obtain⟨k',rfl⟩:∃k',k=k'+1:=⟨k-1,by omega⟩
   show lQ 200000 (dW 200000 k') _=_
   simp only[lQ,ae]
   rw[if_neg (by simp only[beq_iff_eq];omega)]
theorem Fo (hl:l.length≤100000) (p:Nat) (e:Int) (hp:p≤l.length) (he:iH e) :
  O8 200000 (b,d,g,t,m0,m1,m2,s0,s1,s2,(sz:Int),B l,(p:Int),e)=some (((cw l 100001 p e 1).1:Int),B l,(((cw l 100001 p e 1).2.1:Nat):Int),(cw l 100001 p e 1).2.2):=by
 have h:=yV b d g t m0 m1 m2 s0 s1 s2 sz l hl 100001 p 200000 e 1 hp he (by omega) (by omega) (by omega)
 simp only[O8]
 rw[show((1:Nat):Int)=1 from rfl] at h
 rw[h,Option.bind_some]
theorem yZ (hl:l.length≤100000):∀(j p k:Nat) (e:Int) (n:Nat),p≤l.length→iH e→l.length-p<j→j≤k→n+255*j≤100000000 →
  sB 200000 k ((n:Int),b,d,g,t,m0,m1,m2,s0,s1,s2,(sz:Int),B l,(p:Int),e)=some (((cw l j p e n).1:Int),b,d,g,t,m0,m1,m2,s0,s1,s2,(sz:Int),B l,(((cw l j p e n).2.1:Nat):Int),(cw l j p e n).2.2)
 | j+1,p,k+1,e,n,hp,he,hj,hk,hn=>by
  obtain⟨q1,q2,_,_⟩:=bM l 1 p e hp he
  have hb:=k9 l p e
  have ih:=yZ hl j
  show Db 200000 (sB 200000 k) _=_
  simp only[Db,ae]
  rw[kw l p e hp he hl,Option.bind_some]
  simp only
  rw[aQ (by omega) (by omega),show(n:Int)+(au l p e:Int)=((n+au l p e:Nat):Int) by omega]
  unfold cw
  by_cases h:au l p e=255
  ·obtain⟨h1,h2⟩:=Ag l p e h
   rw[if_pos h,if_neg (by rw[h];decide),h,ih (aD l 1 p e).2.1 k (aD l 1 p e).2.2 (n+255) q1 q2 (by omega) (by omega) (by omega),Option.bind_some]
  ·rw[if_neg h,if_pos (by simp only[bne_iff_ne,ne_eq];omega)]
theorem Ft (hl:l.length≤100000) (p:Nat) (e:Int) (hp:p≤l.length) (he:iH e) :
  Xo 200000 (b,d,g,t,m0,m1,m2,s0,s1,s2,(sz:Int),B l,(p:Int),e)=some (((cw l 100001 p e 1).1:Int),b,d,g,t,m0,m1,m2,s0,s1,s2,(sz:Int),B l,(((cw l 100001 p e 1).2.1:Nat):Int),(cw l 100001 p e 1).2.2):=by
 have h:=yZ b d g t m0 m1 m2 s0 s1 s2 sz l hl 100001 p 200000 e 1 hp he (by omega) (by omega) (by omega)
 simp only[Xo]
 rw[show((1:Nat):Int)=1 from rfl] at h
 rw[h,Option.bind_some]
end
end Go.Proofs.YtfcamlibbfnldaaGreat.Am
set_option maxRecDepth 100000
namespace Go.Proofs.YtfcamlibbfnldaaGreat.Am
open Go.Am
section
variable (b d:Int) (g t:Bool) (m0 m1 m2 s0 s1 s2:Int) (sz sh:Nat) (l:List UInt8)
def bI (pal:List Nat) (p:Nat) (e:Int):Option (Nat×Nat×Nat×Int) :=
 if pal.length=0 then some (jr g sz sh l p e,cw l 100001 (aD l sz p e).2.1 (aD l sz p e).2.2 1)
 else if au l p e % 128≥pal.length then none
 else if au l p e≥128 then some (pal.getD (au l p e % 128) 0,cw l 100001 (aD l 1 p e).2.1 (aD l 1 p e).2.2 1)
 else some (pal.getD (au l p e % 128) 0,1,(aD l 1 p e).2.1,(aD l 1 p e).2.2)
def bJ (pal:List Nat) (all:Nat):Nat→Nat→Int→List Nat→Option (Nat×Int×List Nat)
 | 0,_,_,_=>none
 | k+1,p,e,out=>if out.length<all then (match bI g sz sh l pal p e with
   | none=>none
   | some (v,m,p',e')=>if e'≠0 then none else if m>all-out.length then none else bJ pal all k p' e' (out++List.replicate m v))
  else some (p,e,out)
theorem sQ (h4:sz≤4) (hsh:sh=0∨sh=8∧sz=3) {pal:List Nat} {p:Nat} {e:Int} (hp:p≤l.length) (he:iH e) (hl:l.length≤100000) (hpal:∀v∈pal,v<4294967296) {v m p':Nat} {e':Int} (h:bI g sz sh l pal p e=some (v,m,p',e')) :
  p'≤l.length∧iH e'∧1≤m∧v<4294967296:=by
 unfold bI at h
 obtain⟨q1,q2,_,_⟩:=bM l sz p e hp he
 obtain⟨r1,r2,_,_⟩:=bM l 1 p e hp he
 have hv:=PV g sz sh h4 hsh (aD l sz p e).1 (nz l sz p e)
 have hg:∀i,i<pal.length→pal.getD i 0<4294967296:=fun i hi=>hpal _ (by rw[List.getD,List.getElem?_eq_getElem hi];exact List.getElem_mem hi)
 split at h
 ·have:=An l 100001 (aD l sz p e).2.1 (aD l sz p e).2.2 1 q1 q2 (by omega) (by omega)
  generalize cw l 100001 (aD l sz p e).2.1 (aD l sz p e).2.2 1=r at *
  have h5:=Option.some.inj h
  have e1:r=(m,p',e'):=congrArg Prod.snd h5
  have e2:jr g sz sh l p e=v:=congrArg Prod.fst h5
  rw[e1] at this
  rw[←e2]
  exact⟨this.1,this.2.1,this.2.2.1,hv⟩
 ·split at h
  ·cases h
  ·rename_i h2
   split at h
   ·have:=An l 100001 (aD l 1 p e).2.1 (aD l 1 p e).2.2 1 r1 r2 (by omega) (by omega)
    generalize cw l 100001 (aD l 1 p e).2.1 (aD l 1 p e).2.2 1=r at *
    have h5:=Option.some.inj h
    have e1:r=(m,p',e'):=congrArg Prod.snd h5
    have e2:pal.getD (au l p e % 128) 0=v:=congrArg Prod.fst h5
    rw[e1] at this
    rw[←e2]
    exact⟨this.1,this.2.1,this.2.2.1,hg _ (by omega)⟩
   ·have h5:=Option.some.inj h
    simp only[Prod.mk.injEq] at h5
    obtain⟨e2,e3,e4,e5⟩:=h5
    rw[←e2,←e3,←e4,←e5]
    exact⟨r1,r2,by omega,hg _ (by omega)⟩
theorem Dz (h4:sz≤4) (hsh:sh=0∨sh=8∧sz=3) (pal:List Nat) (all:Nat) (hl:l.length≤100000) (hpal:∀v∈pal,v<4294967296):∀(k p:Nat) (e:Int) (out:List Nat),p≤l.length→iH e→out.length≤all→(∀v∈out,v<4294967296)→∀p' e' out',bJ g sz sh l pal all k p e out=some (p',e',out') →
  p'≤l.length∧iH e'∧out'.length=all∧∀v∈out',v<4294967296
 | k+1,p,e,out,hp,he,ho,hov,p',e',out',h=>by
  unfold bJ at h
  split at h
  ·cases hs:bI g sz sh l pal p e with
   | none=>rw[hs] at h;cases h
   | some r =>
    obtain⟨v,m,p1,e1⟩:=r
    rw[hs] at h
    simp only at h
    obtain⟨a1,a2,a3,a4⟩:=sQ g sz sh l h4 hsh hp he hl hpal hs
    split at h
    ·cases h
    ·split at h
     ·cases h
     ·refine Dz h4 hsh pal all hl hpal k p1 e1 (out++List.replicate m v) a1 a2 (by rw[List.length_append,List.length_replicate];omega) ?_ p' e' out' h
      intro x hx
      rcases List.mem_append.1 hx with h5|h5
      ·exact hov x h5
      ·rw[(List.mem_replicate.1 h5).2];exact a4
  ·cases h
   exact⟨hp,he,by omega,hov⟩
variable (hv:jm b d t m0 m1 m2 s0 s1 s2=true) (h37:Fg 200000 (b,d,g,t,m0,m1,m2,s0,s1,s2)=some ((sz:Int),(sh:Int))) (h87:TQ 200000 (b,d,g,t,m0,m1,m2,s0,s1,s2)=some ((sz:Int),(sh:Int))) (h1:1≤sz) (h4:sz≤4) (hsh:sh=0∨sh=8∧sz=3) (hl:l.length≤100000)
theorem af5:∀n:Fin 256,n.val &&& 127=n.val % 128:=by decide
theorem AU {n:Nat} (h:n<256):IntKind.wrap .i64 ((BitVec.toNat (BitVec.ofInt 64 (n:Int) &&& BitVec.ofInt 64 127):Nat):Int)=((n % 128:Nat):Int):=by
 have:=du (a:=n) (c:=127) (by omega) (by omega)
 have h2:=af5 ⟨n,h⟩
 simp only at h2
 rw[h2] at this
 exact this
theorem zl (x2:Int) (v:Nat) (p:Nat) (e:Int) (pal:List Int):∀(j i k:Nat) (out:List Nat),j<k→i+j≤100000→out.length+j≤200000 →
  cb 200000 k ((i:Int),((i+j:Nat):Int),x2,(v:Int),B l,(p:Int),e,nl out,b,d,g,t,m0,m1,m2,s0,s1,s2,(sz:Int),pal)=some (x2,B l,(p:Int),e,pal,b,d,g,t,m0,m1,m2,s0,s1,s2,(sz:Int),nl (out++List.replicate j v))
 | 0,i,k+1,out,hk,hi,ho=>by
  show eY 200000 (cb 200000 k) _=_
  simp only[eY,ae]
  rw[aL (by omega),List.replicate_zero,List.append_nil]
 | j+1,i,k+1,out,hk,hi,ho=>by
  have ih:=zl x2 v p e pal j (i+1) k (out++[v]) (by omega) (by omega) (by rw[List.length_append];simp;omega)
  show eY 200000 (cb 200000 k) _=_
  generalize cb 200000 k=G at *
  simp only[eY,ae]
  rw[aK (by omega),aK (by rw[aj];simp;omega),gv,dI,aQ (by omega) (by omega),show(i:Int)+1=((i+1:Nat):Int) by omega,show i+(j+1)=i+1+j by omega,ih,Option.bind_some]
  rw[List.append_assoc,List.replicate_succ]
  rfl
theorem zh (x2 x3:Int) (v:Nat) (p:Nat) (e:Int) (pal:List Int):∀(j i k:Nat) (out:List Nat),j<k→i+j≤100000→out.length+j≤200000 →
  bG 200000 k ((i:Int),((i+j:Nat):Int),x2,x3,(v:Int),b,d,g,t,m0,m1,m2,s0,s1,s2,(sz:Int),B l,(p:Int),e,nl out,pal)=some (x3,x2,b,d,g,t,m0,m1,m2,s0,s1,s2,(sz:Int),B l,(p:Int),e,nl (out++List.replicate j v),pal)
 | 0,i,k+1,out,hk,hi,ho=>by
  show fM 200000 (bG 200000 k) _=_
  simp only[fM,ae]
  rw[aL (by omega),List.replicate_zero,List.append_nil]
 | j+1,i,k+1,out,hk,hi,ho=>by
  have ih:=zh x2 x3 v p e pal j (i+1) k (out++[v]) (by omega) (by omega) (by rw[List.length_append];simp;omega)
  show fM 200000 (bG 200000 k) _=_
  generalize bG 200000 k=G at *
  simp only[fM,ae]
  rw[aK (by omega),aK (by rw[aj];simp;omega),gv,dI,aQ (by omega) (by omega),show(i:Int)+1=((i+1:Nat):Int) by omega,show i+(j+1)=i+1+j by omega,ih,Option.bind_some]
  rw[List.append_assoc,List.replicate_succ]
  rfl
include hv h37 h87 h1 h4 hsh hl
theorem Ta (pal:List Nat) (hpl:pal.length≤200) (p:Nat) (e:Int) (hp:p≤l.length) (he:iH e):match bI g sz sh l pal p e with
  | some (v,m,p',e')=>C0 200000 (b,d,g,t,m0,m1,m2,s0,s1,s2,(sz:Int),nl pal,B l,(p:Int),e)=some ((v:Int),(m:Int),true,B l,(p':Int),e')
  | none=>∃q:Nat,∃e',C0 200000 (b,d,g,t,m0,m1,m2,s0,s1,s2,(sz:Int),nl pal,B l,(p:Int),e)=some (0,0,false,B l,(q:Int),e'):=by
 obtain⟨q1,q2,_,_⟩:=bM l sz p e hp he
 obtain⟨r1,r2,_,_⟩:=bM l 1 p e hp he
 have hb:=k9 l p e
 by_cases hz:pal.length=0
 ·have hs:bI g sz sh l pal p e=some (jr g sz sh l p e,cw l 100001 (aD l sz p e).2.1 (aD l sz p e).2.2 1):=by unfold bI;rw[if_pos hz]
  rw[hs]
  simp only[C0,ae,aj]
  rw[if_pos (by simp[hz]),v6 b d g t m0 m1 m2 s0 s1 s2 sz sh hv h37 h1 h4 hsh l p e hp he hl,Option.bind_some]
  simp only
  rw[Fo b d g t m0 m1 m2 s0 s1 s2 sz l hl _ _ q1 q2,Option.bind_some]
 ·by_cases hg:au l p e % 128≥pal.length
  ·have hs:bI g sz sh l pal p e=none:=by unfold bI;rw[if_neg hz,if_pos hg]
   rw[hs]
   simp only[C0,ae,aj]
   rw[if_neg (by simp only[beq_iff_eq];omega),ky l p e hp he hl,Option.bind_some]
   simp only
   rw[AU hb,aK (by omega)]
   exact⟨_,_,rfl⟩
  ·by_cases hb2:au l p e≥128
   ·have hs:bI g sz sh l pal p e=some (pal.getD (au l p e % 128) 0,cw l 100001 (aD l 1 p e).2.1 (aD l 1 p e).2.2 1):=by unfold bI;rw[if_neg hz,if_neg hg,if_pos hb2]
    rw[hs]
    simp only[C0,ae,aj]
    rw[if_neg (by simp only[beq_iff_eq];omega),ky l p e hp he hl,Option.bind_some]
    simp only
    rw[AU hb,aL (by omega),aK (by omega),Fo b d g t m0 m1 m2 s0 s1 s2 sz l hl _ _ r1 r2,Option.bind_some,if_pos (am (by omega)),Int.toNat_natCast,cW (by omega),Option.bind_some]
   ·have hs:bI g sz sh l pal p e=some (pal.getD (au l p e % 128) 0,1,(aD l 1 p e).2.1,(aD l 1 p e).2.2):=by unfold bI;rw[if_neg hz,if_neg hg,if_neg hb2]
    rw[hs]
    simp only[C0,ae,aj]
    rw[if_neg (by simp only[beq_iff_eq];omega),ky l p e hp he hl,Option.bind_some]
    simp only
    rw[AU hb,aL (by omega),aL (by omega),if_pos (am (by omega)),Int.toNat_natCast,cW (by omega),Option.bind_some]
    rfl
theorem zk (pal:List Nat) (hpl:pal.length≤200) (hpal:∀v∈pal,v<4294967296) (all:Nat) (hall:all≤50000):∀(j p k:Nat) (e:Int) (out:List Nat),p≤l.length→iH e→out.length≤all→all-out.length<j→j≤k →
  match bJ g sz sh l pal all j p e out with
  | some (p',e',out')=>cA 200000 k ((all:Int),B l,(p:Int),e,nl pal,b,d,g,t,m0,m1,m2,s0,s1,s2,(sz:Int),nl out)=some (.inr (B l,(p':Int),e',nl out'))
  | none=>∃q:Nat,∃e',cA 200000 k ((all:Int),B l,(p:Int),e,nl pal,b,d,g,t,m0,m1,m2,s0,s1,s2,(sz:Int),nl out)=some (.inl (false,B l,(q:Int),e',[]))
 | j+1,p,k+1,e,out,hp,he,ho,hj,hk=>by
  have ih:=zk pal hpl hpal all hall j
  have hrun:=Ta b d g t m0 m1 m2 s0 s1 s2 sz sh l hv h37 h87 h1 h4 hsh hl pal hpl p e hp he
  by_cases hlt:out.length<all
  ·cases hs:bI g sz sh l pal p e with
   | none =>
    rw[hs] at hrun
    obtain⟨q,e',hr⟩:=hrun
    unfold bJ
    rw[if_pos hlt,hs]
    refine⟨q,e',?_⟩
    show gm 200000 (cA 200000 k) _=_
    simp only[gm,ae]
    rw[aK (by rw[aj];omega),hr]
    rfl
   | some r =>
    obtain⟨v,m,p1,e1⟩:=r
    rw[hs] at hrun
    simp only at hrun
    obtain⟨a1,a2,a3,a4⟩:=sQ g sz sh l h4 hsh hp he hl hpal hs
    have hB:cA 200000 (k+1) ((all:Int),B l,(p:Int),e,nl pal,b,d,g,t,m0,m1,m2,s0,s1,s2,(sz:Int),nl out)=(if (e1 != 0)=true then some (.inl (false,B l,(p1:Int),e1,[])) else
      if decide ((m:Int)>IntKind.wrap .i64 ((all:Int)-((nl out).length:Int)))=true then some (.inl (false,B l,(p1:Int),e1,[])) else
      (cb 200000 200000 (0,(m:Int),(all:Int),(v:Int),B l,(p1:Int),e1,nl out,b,d,g,t,m0,m1,m2,s0,s1,s2,(sz:Int),nl pal)).bind fun y=>(cA 200000 k y).bind fun r=>match r with|.inl y=>some (.inl y)|.inr y=>some (.inr y)):=by
     show gm 200000 (cA 200000 k) _=_
     generalize cA 200000 k=G
     simp only[gm,ae]
     rw[aK (by rw[aj];omega),hrun,Option.bind_some]
     rfl
    rw[hB]
    unfold bJ
    rw[if_pos hlt,hs]
    simp only[aj]
    by_cases he1:e1=0
    ·simp only[he1,bne_self_eq_false,Bool.false_eq_true,if_false,ne_eq,not_true_eq_false]
     rw[aQ (n:=(all:Int)-(out.length:Int)) (by omega) (by omega)]
     by_cases hm:m>all-out.length
     ·rw[if_pos hm,aK (by omega)]
      exact⟨p1,0,rfl⟩
     ·rw[if_neg hm,aL (by omega)]
      have hfill:=zl b d g t m0 m1 m2 s0 s1 s2 sz l (all:Int) v p1 0 (nl pal) m 0 200000 out (by omega) (by omega) (by omega)
      rw[Nat.zero_add] at hfill
      have hfill':cb 200000 200000 (0,(m:Int),(all:Int),(v:Int),B l,(p1:Int),0,nl out,b,d,g,t,m0,m1,m2,s0,s1,s2,(sz:Int),nl pal)=_:=hfill
      rw[hfill']
      have:=ih p1 k 0 (out++List.replicate m v) a1 (.inl rfl) (by rw[List.length_append,List.length_replicate];omega) (by rw[List.length_append,List.length_replicate];omega) (by omega)
      simp only[Option.bind_some]
      cases hr:bJ g sz sh l pal all j p1 0 (out++List.replicate m v) with
      | none =>
       rw[hr] at this
       obtain⟨q,e',h⟩:=this
       exact⟨q,e',by rw[h];rfl⟩
      | some r =>
       rw[hr] at this
       simp only at this ⊢
       rw[this];rfl
    ·rw[if_pos he1,if_pos (by simpa using he1)]
     exact⟨p1,e1,rfl⟩
  ·unfold bJ
   rw[if_neg hlt]
   show gm 200000 (cA 200000 k) _=_
   simp only[gm,ae]
   rw[aL (by rw[aj];omega)]
theorem zg (pal:List Nat) (hpl:pal.length≤200) (hpal:∀v∈pal,v<4294967296) (all:Nat) (hall:all≤50000):∀(j p k:Nat) (e:Int) (out:List Nat),p≤l.length→iH e→out.length≤all→all-out.length<j→j≤k →
  match bJ g sz sh l pal all j p e out with
  | some (p',e',out')=>eL 200000 k (((pal.length:Nat):Int),(all:Int),b,d,g,t,m0,m1,m2,s0,s1,s2,(sz:Int),B l,(p:Int),e,nl out,nl pal)=some (.inr (b,d,g,t,m0,m1,m2,s0,s1,s2,(sz:Int),B l,(p':Int),e',nl out'))
  | none=>∃q:Nat,∃e',eL 200000 k (((pal.length:Nat):Int),(all:Int),b,d,g,t,m0,m1,m2,s0,s1,s2,(sz:Int),B l,(p:Int),e,nl out,nl pal)=some (.inl (false,b,d,g,t,m0,m1,m2,s0,s1,s2,(sz:Int),B l,(q:Int),e',[]))
 | j+1,p,k+1,e,out,hp,he,ho,hj,hk=>by
  have ih:=zg pal hpl hpal all hall j
  obtain⟨q1,q2,_,_⟩:=bM l sz p e hp he
  obtain⟨r1,r2,_,_⟩:=bM l 1 p e hp he
  have hb:=k9 l p e
  have hF:∀r,eL 200000 (k+1) (((pal.length:Nat):Int),(all:Int),b,d,g,t,m0,m1,m2,s0,s1,s2,(sz:Int),B l,(p:Int),e,nl out,nl pal)=r↔jl 200000 (eL 200000 k) (((pal.length:Nat):Int),(all:Int),b,d,g,t,m0,m1,m2,s0,s1,s2,(sz:Int),B l,(p:Int),e,nl out,nl pal)=r:=fun _=>Iff.rfl
  simp only[hF]
  -- what is done with a run
  have fin:∀(v m p1:Nat) (e1:Int),bI g sz sh l pal p e=some (v,m,p1,e1)→∀R:Option rX,
    R=(if (e1 != 0)=true then some (.inl (false,b,d,g,t,m0,m1,m2,s0,s1,s2,(sz:Int),B l,(p1:Int),e1,[])) else
     if decide ((m:Int)>IntKind.wrap .i64 ((all:Int)-((nl out).length:Int)))=true then some (.inl (false,b,d,g,t,m0,m1,m2,s0,s1,s2,(sz:Int),B l,(p1:Int),e1,[])) else
     (bG 200000 200000 (0,(m:Int),(all:Int),((pal.length:Nat):Int),(v:Int),b,d,g,t,m0,m1,m2,s0,s1,s2,(sz:Int),B l,(p1:Int),e1,nl out,nl pal)).bind fun y=>(eL 200000 k y).bind fun r=>match r with|.inl y=>some (.inl y)|.inr y=>some (.inr y)) →
    out.length<all →
    (match bJ g sz sh l pal all (j+1) p e out with
     | some (p',e',out')=>R=some (.inr (b,d,g,t,m0,m1,m2,s0,s1,s2,(sz:Int),B l,(p':Int),e',nl out'))
     | none=>∃q:Nat,∃e',R=some (.inl (false,b,d,g,t,m0,m1,m2,s0,s1,s2,(sz:Int),B l,(q:Int),e',[]))):=by
   intro v m p1 e1 hs R hR hlt
   subst hR
   obtain⟨a1,a2,a3,a4⟩:=sQ g sz sh l h4 hsh hp he hl hpal hs
   unfold bJ
   rw[if_pos hlt,hs]
   simp only[aj]
   by_cases he1:e1=0
   ·simp only[he1,bne_self_eq_false,Bool.false_eq_true,if_false,ne_eq,not_true_eq_false]
    rw[aQ (n:=(all:Int)-(out.length:Int)) (by omega) (by omega)]
    by_cases hm:m>all-out.length
    ·rw[if_pos hm,aK (by omega)]
     exact⟨p1,0,rfl⟩
    ·rw[if_neg hm,aL (by omega)]
     have hfill:=zh b d g t m0 m1 m2 s0 s1 s2 sz l (all:Int) ((pal.length:Nat):Int) v p1 0 (nl pal) m 0 200000 out (by omega) (by omega) (by omega)
     rw[Nat.zero_add] at hfill
     have hfill':bG 200000 200000 (0,(m:Int),(all:Int),((pal.length:Nat):Int),(v:Int),b,d,g,t,m0,m1,m2,s0,s1,s2,(sz:Int),B l,(p1:Int),0,nl out,nl pal)=_:=hfill
     rw[hfill']
     have:=ih p1 k 0 (out++List.replicate m v) a1 (.inl rfl) (by rw[List.length_append,List.length_replicate];omega) (by rw[List.length_append,List.length_replicate];omega) (by omega)
     simp only[Option.bind_some]
     cases hr:bJ g sz sh l pal all j p1 0 (out++List.replicate m v) with
     | none =>
      rw[hr] at this
      obtain⟨q,e',h⟩:=this
      exact⟨q,e',by rw[h];rfl⟩
     | some r =>
      rw[hr] at this
      simp only at this ⊢
      rw[this];rfl
   ·rw[if_pos he1,if_pos (by simpa using he1)]
    exact⟨p1,e1,rfl⟩
  by_cases hlt:out.length<all
  ·by_cases hz:pal.length=0
   ·have hs:bI g sz sh l pal p e=some (jr g sz sh l p e,cw l 100001 (aD l sz p e).2.1 (aD l sz p e).2.2 1):=by unfold bI;rw[if_pos hz]
    refine fin _ _ _ _ hs _ ?_ hlt
    simp only[jl,ae]
    rw[aK (by rw[aj];omega),aL (by omega),vZ b d g t m0 m1 m2 s0 s1 s2 sz sh h87 h1 h4 hsh l p e hp he hl,Option.bind_some]
    simp only
    rw[Ft b d g t m0 m1 m2 s0 s1 s2 sz l hl _ _ q1 q2,Option.bind_some]
    rfl
   ·by_cases hg:au l p e % 128≥pal.length
    ·have hs:bI g sz sh l pal p e=none:=by unfold bI;rw[if_neg hz,if_pos hg]
     unfold bJ
     rw[if_pos hlt,hs]
     simp only[jl,ae]
     rw[aK (by rw[aj];omega),aK (by omega),kw l p e hp he hl,Option.bind_some]
     simp only
     rw[show Int.tmod (au l p e:Int) 128=((au l p e % 128:Nat):Int) from rfl,aK (by omega)]
     exact⟨_,_,rfl⟩
    ·by_cases hb2:au l p e≥128
     ·have hs:bI g sz sh l pal p e=some (pal.getD (au l p e % 128) 0,cw l 100001 (aD l 1 p e).2.1 (aD l 1 p e).2.2 1):=by unfold bI;rw[if_neg hz,if_neg hg,if_pos hb2]
      refine fin _ _ _ _ hs _ ?_ hlt
      simp only[jl,ae]
      rw[aK (by rw[aj];omega),aK (by omega),kw l p e hp he hl,Option.bind_some]
      simp only
      rw[show Int.tmod (au l p e:Int) 128=((au l p e % 128:Nat):Int) from rfl,aL (by omega),if_pos (am (by rw[aj];omega)),Int.toNat_natCast,cW (by omega),Option.bind_some,aK (by omega),Ft b d g t m0 m1 m2 s0 s1 s2 sz l hl _ _ r1 r2,Option.bind_some]
      rfl
     ·have hs:bI g sz sh l pal p e=some (pal.getD (au l p e % 128) 0,1,(aD l 1 p e).2.1,(aD l 1 p e).2.2):=by unfold bI;rw[if_neg hz,if_neg hg,if_neg hb2]
      refine fin _ _ _ _ hs _ ?_ hlt
      simp only[jl,ae]
      rw[aK (by rw[aj];omega),aK (by omega),kw l p e hp he hl,Option.bind_some]
      simp only
      rw[show Int.tmod (au l p e:Int) 128=((au l p e % 128:Nat):Int) from rfl,aL (by omega),if_pos (am (by rw[aj];omega)),Int.toNat_natCast,cW (by omega),Option.bind_some,aL (by omega)]
      rfl
  ·unfold bJ
   rw[if_neg hlt]
   simp only[jl,ae]
   rw[aL (by rw[aj];omega)]
end
end Go.Proofs.YtfcamlibbfnldaaGreat.Am
set_option maxRecDepth 100000
namespace Go.Proofs.YtfcamlibbfnldaaGreat.Am
open Go.Am
def wH (n x:Nat):Nat:=8-n-x*n % 8
theorem ab7 {n:Nat} (x:Nat) (hn:n=1∨n=2∨n=4):x*n % 8≤8-n:=by
 rcases hn with rfl|rfl|rfl<;>omega
theorem Qy {n x:Nat} (hn:n=1∨n=2∨n=4) (hx:x≤10000):IntKind.wrap .i64 (IntKind.wrap .i64 ((8:Int)-(n:Int))-Int.tmod (IntKind.wrap .i64 ((x:Int)*(n:Int))) 8)=((wH n x:Nat):Int):=by
 have h:=ab7 x hn
 have hm:x*n≤40000:=by rcases hn with rfl|rfl|rfl<;>omega
 have e:(x:Int)*(n:Int)=((x*n:Nat):Int):=by simp
 have hn4:n≤4:=by omega
 rw[e,aQ (n:=((x*n:Nat):Int)) (by omega) (by omega),show Int.tmod ((x*n:Nat):Int) 8=((x*n % 8:Nat):Int) from rfl,aQ (n:=(8:Int)-(n:Int)) (by omega) (by omega)]
 unfold wH
 generalize x*n % 8=r at *
 rw[aQ (by omega) (by omega)]
 omega
theorem at_eq {n x:Nat} (hn:n=1∨n=2∨n=4) (hx:x≤10000):IntKind.wrap .i64 (Int.tdiv (IntKind.wrap .i64 ((x:Int)*(n:Int))) 8)=((x*n / 8:Nat):Int):=by
 have hm:x*n≤40000:=by rcases hn with rfl|rfl|rfl<;>omega
 have e:(x:Int)*(n:Int)=((x*n:Nat):Int):=by simp
 rw[e,aQ (n:=((x*n:Nat):Int)) (by omega) (by omega),show Int.tdiv ((x*n:Nat):Int) 8=((x*n / 8:Nat):Int) from rfl,aQ (by omega) (by omega)]
def Dd (c n x:Nat):Nat:=c / 2^wH n x % 2^n
theorem ac6 {c n x:Nat} (hc:c<256) (hn:n=1∨n=2∨n=4) (hx:x≤10000) :
  IntKind.wrap .i64 ((BitVec.toNat (BitVec.ofInt 64 (Int.fdiv (c:Int) ((2:Int)^min (Int.toNat ((wH n x:Nat):Int)) 64)) &&& BitVec.ofInt 64 (IntKind.wrap .i64 (IntKind.wrap .i64 ((1:Int)*(2:Int)^min (Int.toNat (n:Int)) 64)-1))):Nat):Int)=((Dd c n x:Nat):Int):=by
 have hs:wH n x≤8:=by unfold wH;omega
 have h0:c / 2^wH n x≤c:=Nat.div_le_self _ _
 have e1:Int.fdiv (c:Int) ((2:Int)^min (Int.toNat ((wH n x:Nat):Int)) 64)=((c / 2^wH n x:Nat):Int):=by
  rw[Int.toNat_natCast,Nat.min_eq_left (by omega),show(2:Int)^wH n x=((2^wH n x:Nat):Int) by simp,jS]
 have e2:IntKind.wrap .i64 (IntKind.wrap .i64 ((1:Int)*(2:Int)^min (Int.toNat (n:Int)) 64)-1)=((2^n-1:Nat):Int):=by rcases hn with rfl|rfl|rfl<;>decide
 have e3:2^n-1<4294967296:=by rcases hn with rfl|rfl|rfl<;>decide
 rw[e1,e2,du (by omega) e3]
 unfold Dd
 rw[Nat.and_two_pow_sub_one_eq_mod]
noncomputable def av5 (s:Nat):Bool:=match S8 200000 (s:Int) with
 | some v=>decide (v=((2^s:Nat):Int))
 | none=>false
theorem Um:(List.range 9).all av5=true:=by kernel_rfl
theorem Fu {s:Nat} (h:s≤8):S8 200000 (s:Int)=some ((2^s:Nat):Int):=by
 have h:=List.all_eq_true.1 Um s (List.mem_range.2 (by omega))
 unfold av5 at h
 cases hf:S8 200000 (s:Int) with
 | none=>rw[hf] at h;cases h
 | some v=>rw[hf] at h;rw[of_decide_eq_true h]
theorem ac2 {c n x:Nat} (hc:c<256):Int.tmod (IntKind.wrap .i64 (Int.tdiv (c:Int) ((2^wH n x:Nat):Int))) ((2^n:Nat):Int)=((Dd c n x:Nat):Int):=by
 have h0:c / 2^wH n x≤c:=Nat.div_le_self _ _
 unfold Dd
 rw[show Int.tdiv (c:Int) ((2^wH n x:Nat):Int)=((c / 2^wH n x:Nat):Int) from rfl]
 generalize c / 2^wH n x=q at *
 rw[aQ (by omega) (by omega)]
 rfl
def mf (row:List UInt8) (n:Nat) (pal:List Nat):Nat→Nat→List Nat→Option (List Nat)
 | 0,_,out=>some out
 | j+1,x,out=>if Dd (row.getD (x*n / 8) 0).toNat n x≥pal.length then none else mf row n pal j (x+1) (out++[pal.getD (Dd (row.getD (x*n / 8) 0).toNat n x) 0])
theorem rH (row:List UInt8) (n:Nat) (pal:List Nat) (hpal:∀v∈pal,v<4294967296):∀(j x:Nat) (out out':List Nat),(∀v∈out,v<4294967296)→mf row n pal j x out=some out'→out'.length=out.length+j∧∀v∈out',v<4294967296
 | 0,x,out,out',ho,h=>by cases h;exact⟨rfl,ho⟩
 | j+1,x,out,out',ho,h=>by
  unfold mf at h
  split at h
  ·cases h
  ·rename_i hi
   obtain⟨h1,h2⟩:=rH row n pal hpal j (x+1) _ out' (by
    intro v hv
    rcases List.mem_append.1 hv with h5|h5
    ·exact ho v h5
    ·rw[List.mem_singleton] at h5
     rw[h5,List.getD,List.getElem?_eq_getElem (by omega)]
     exact hpal _ (List.getElem_mem _)) h
   exact⟨by rw[h1,List.length_append];simp;omega,h2⟩
section
variable (b d:Int) (g t:Bool) (m0 m1 m2 s0 s1 s2:Int) (sz sh:Nat) (l:List UInt8)
def wd (k:Nat):Nat:=if k≤2 then 1 else if k≤4 then 2 else 4
theorem PT (k:Nat):wd k=1∨wd k=2∨wd k=4:=by unfold wd;split;exact .inl rfl;split;exact .inr (.inl rfl);exact .inr (.inr rfl)
theorem sC (k:Nat):Pf 200000 (k:Int)=some ((wd k:Nat):Int)∧ao7 200000 (k:Int)=some ((wd k:Nat):Int):=by
 simp only[Pf,ao7,ae]
 unfold wd
 by_cases h1:k≤2
 ·rw[if_pos h1,aK (by omega)];exact⟨rfl,rfl⟩
 ·rw[if_neg h1,aL (by omega)]
  by_cases h2:k≤4
  ·rw[if_pos h2,aK (by omega)];exact⟨rfl,rfl⟩
  ·rw[if_neg h2,aL (by omega)];exact⟨rfl,rfl⟩
theorem QB {w n x:Nat} (hn:n=1∨n=2∨n=4) (hx:x<w):x*n / 8<(w*n+7) / 8:=by
 rcases hn with rfl|rfl|rfl<;>omega
theorem aw2 {l:List UInt8} {i:Nat} (h:i<l.length):l[i]?=some (l.getD i 0):=by rw[List.getD,List.getElem?_eq_getElem h];rfl
theorem FE (row:List UInt8) (n w:Nat) (pal:List Nat) (hn:n=1∨n=2∨n=4) (hr:row.length=(w*n+7) / 8) (hw:w≤5000) (y h:Int) (p:Nat) (e:Int):∀(j x k:Nat) (out:List Nat),x+j=w→j<k→out.length+j≤200000 →
  match mf row n pal j x out with
  | some out'=>a7 200000 k ((w:Int),(w:Int),h,y,B row,(n:Int),((pal.length:Nat):Int),(x:Int),B l,(p:Int),e,b,d,g,t,m0,m1,m2,s0,s1,s2,(sz:Int),nl pal,nl out)=some (.inr (y,((pal.length:Nat):Int),(n:Int),h,(w:Int),B l,(p:Int),e,nl out',nl pal,b,d,g,t,m0,m1,m2,s0,s1,s2,(sz:Int)))
  | none=>a7 200000 k ((w:Int),(w:Int),h,y,B row,(n:Int),((pal.length:Nat):Int),(x:Int),B l,(p:Int),e,b,d,g,t,m0,m1,m2,s0,s1,s2,(sz:Int),nl pal,nl out)=some (.inl (false,B l,(p:Int),e,[]))
 | 0,x,k+1,out,hx,hk,ho=>by
  show dh 200000 (a7 200000 k) _=_
  simp only[dh,ae]
  rw[aL (by omega)]
 | j+1,x,k+1,out,hx,hk,ho=>by
  have hat:=QB (w:=w) (x:=x) hn (by omega)
  have hc:=(row.getD (x*n / 8) 0).toNat_lt
  have ih:=FE row n w pal hn hr hw y h p e j (x+1) k (out++[pal.getD (Dd (row.getD (x*n / 8) 0).toNat n x) 0]) (by omega) (by omega) (by rw[List.length_append];simp;omega)
  have hn0:¬((n:Int)<0):=by omega
  have go:a7 200000 (k+1) ((w:Int),(w:Int),h,y,B row,(n:Int),((pal.length:Nat):Int),(x:Int),B l,(p:Int),e,b,d,g,t,m0,m1,m2,s0,s1,s2,(sz:Int),nl pal,nl out) =
    if Dd (row.getD (x*n / 8) 0).toNat n x≥pal.length then some (.inl (false,B l,(p:Int),e,[])) else a7 200000 k ((w:Int),(w:Int),h,y,B row,(n:Int),((pal.length:Nat):Int),((x+1:Nat):Int),B l,(p:Int),e,b,d,g,t,m0,m1,m2,s0,s1,s2,(sz:Int),nl pal,nl (out++[pal.getD (Dd (row.getD (x*n / 8) 0).toNat n x) 0])):=by
   show dh 200000 (a7 200000 k) _=_
   generalize a7 200000 k=G
   simp only[dh,ae,Qy hn (show x≤10000 by omega),at_eq hn (show x≤10000 by omega)]
   rw[aK (by omega),aK (by omega),Int.toNat_natCast,GA,aw2 (by omega),Option.bind_some,aL (by omega),aL hn0,G6,ac6 hc hn (by omega)]
   by_cases hi:Dd (row.getD (x*n / 8) 0).toNat n x≥pal.length
   ·rw[if_pos hi,aK (by omega)]
   ·rw[if_neg hi,aL (by omega),if_pos (am (by rw[aj];omega)),Int.toNat_natCast,cW (by omega),Option.bind_some,aK (by rw[aj];simp;omega),gv,dI,aQ (by omega) (by omega),show(x:Int)+1=((x+1:Nat):Int) by omega]
    generalize G _=o
    cases o with
    | none=>rfl
    | some r=>cases r<;>rfl
  rw[go]
  unfold mf
  by_cases hi:Dd (row.getD (x*n / 8) 0).toNat n x≥pal.length
  ·rw[if_pos hi,if_pos hi]
  ·rw[if_neg hi,if_neg hi]
   exact ih
theorem FC (row:List UInt8) (n w:Nat) (pal:List Nat) (hn:n=1∨n=2∨n=4) (hr:row.length=(w*n+7) / 8) (hw:w≤5000) (y h:Int) (p:Nat) (e:Int):∀(j x k:Nat) (out:List Nat),x+j=w→j<k→out.length+j≤200000 →
  match mf row n pal j x out with
  | some out'=>bH 200000 k ((w:Int),h,y,B row,(n:Int),((pal.length:Nat):Int),(x:Int),b,d,g,t,m0,m1,m2,s0,s1,s2,(sz:Int),B l,(p:Int),e,nl pal,nl out)=some (.inr (y,((pal.length:Nat):Int),(n:Int),h,(w:Int),b,d,g,t,m0,m1,m2,s0,s1,s2,(sz:Int),B l,(p:Int),e,nl out',nl pal))
  | none=>bH 200000 k ((w:Int),h,y,B row,(n:Int),((pal.length:Nat):Int),(x:Int),b,d,g,t,m0,m1,m2,s0,s1,s2,(sz:Int),B l,(p:Int),e,nl pal,nl out)=some (.inl (false,b,d,g,t,m0,m1,m2,s0,s1,s2,(sz:Int),B l,(p:Int),e,[]))
 | 0,x,k+1,out,hx,hk,ho=>by
  show fO 200000 (bH 200000 k) _=_
  simp only[fO,ae]
  rw[aL (by omega)]
 | j+1,x,k+1,out,hx,hk,ho=>by
  have hat:=QB (w:=w) (x:=x) hn (by omega)
  have hc:=(row.getD (x*n / 8) 0).toNat_lt
  have ih:=FC row n w pal hn hr hw y h p e j (x+1) k (out++[pal.getD (Dd (row.getD (x*n / 8) 0).toNat n x) 0]) (by omega) (by omega) (by rw[List.length_append];simp;omega)
  have hs8:wH n x≤8:=by unfold wH;omega
  have hp0:0<2^wH n x:=Nat.pow_pos (by decide)
  have hp1:0<2^n:=Nat.pow_pos (by decide)
  have go:bH 200000 (k+1) ((w:Int),h,y,B row,(n:Int),((pal.length:Nat):Int),(x:Int),b,d,g,t,m0,m1,m2,s0,s1,s2,(sz:Int),B l,(p:Int),e,nl pal,nl out) =
    if Dd (row.getD (x*n / 8) 0).toNat n x≥pal.length then some (.inl (false,b,d,g,t,m0,m1,m2,s0,s1,s2,(sz:Int),B l,(p:Int),e,[])) else bH 200000 k ((w:Int),h,y,B row,(n:Int),((pal.length:Nat):Int),((x+1:Nat):Int),b,d,g,t,m0,m1,m2,s0,s1,s2,(sz:Int),B l,(p:Int),e,nl pal,nl (out++[pal.getD (Dd (row.getD (x*n / 8) 0).toNat n x) 0])):=by
   show fO 200000 (bH 200000 k) _=_
   generalize bH 200000 k=G
   simp only[fO,ae,Qy hn (show x≤10000 by omega),at_eq hn (show x≤10000 by omega)]
   rw[aK (by omega),aK (by omega),Int.toNat_natCast,GA,aw2 (by omega),Option.bind_some,Fu hs8,Option.bind_some,aL (by omega),Fu (by omega),Option.bind_some,aL (by omega),G6,ac2 hc]
   by_cases hi:Dd (row.getD (x*n / 8) 0).toNat n x≥pal.length
   ·rw[if_pos hi,aK (by omega)]
   ·rw[if_neg hi,aL (by omega),if_pos (am (by rw[aj];omega)),Int.toNat_natCast,cW (by omega),Option.bind_some,aK (by rw[aj];simp;omega),gv,dI,aQ (by omega) (by omega),show(x:Int)+1=((x+1:Nat):Int) by omega]
    generalize G _=o
    cases o with
    | none=>rfl
    | some r=>cases r<;>rfl
  rw[go]
  unfold mf
  by_cases hi:Dd (row.getD (x*n / 8) 0).toNat n x≥pal.length
  ·rw[if_pos hi,if_pos hi]
  ·rw[if_neg hi,if_neg hi]
   exact ih
def dl (n w:Nat) (pal:List Nat):Nat→Nat→Int→List Nat→Option (Nat×Int×List Nat)
 | 0,p,e,out=>some (p,e,out)
 | j+1,p,e,out=>if (aD l ((w*n+7) / 8) p e).2.2≠0 then none else match mf (aD l ((w*n+7) / 8) p e).1 n pal w 0 out with
  | none=>none
  | some out'=>dl n w pal j (aD l ((w*n+7) / 8) p e).2.1 0 out'
theorem JB (n p:Nat) (e:Int) (h:(aD l n p e).2.2=0):(aD l n p e).1.length=n:=by
 unfold aD at h ⊢
 split
 ·rename_i h0
  rw[if_pos h0] at h
  split
  ·simp;omega
  ·rename_i h1
   rw[if_neg h1] at h
   exact absurd (show(2:Int)=0 from h) (by decide)
 ·rename_i h0
  rw[if_neg h0] at h
  exact absurd h h0
theorem DT (n w:Nat) (pal:List Nat) (hpal:∀v∈pal,v<4294967296):∀(j p:Nat) (e:Int) (out:List Nat),p≤l.length→iH e→(∀v∈out,v<4294967296)→∀p' e' out',dl l n w pal j p e out=some (p',e',out')→p'≤l.length∧iH e'∧out'.length=out.length+j*w∧∀v∈out',v<4294967296
 | 0,p,e,out,hp,he,ho,p',e',out',h=>by cases h;exact⟨hp,he,by simp,ho⟩
 | j+1,p,e,out,hp,he,ho,p',e',out',h=>by
  obtain⟨q1,q2,_,_⟩:=bM l ((w*n+7) / 8) p e hp he
  unfold dl at h
  split at h
  ·cases h
  ·cases hr:mf (aD l ((w*n+7) / 8) p e).1 n pal w 0 out with
   | none=>rw[hr] at h;cases h
   | some o1 =>
    rw[hr] at h
    obtain⟨h1,h2⟩:=rH _ n pal hpal w 0 out o1 ho hr
    obtain⟨a1,a2,a3,a4⟩:=DT n w pal hpal j _ 0 o1 q1 (.inl rfl) h2 p' e' out' h
    exact⟨a1,a2,by rw[a3,h1,Nat.add_mul];omega,a4⟩
theorem XQ {n w:Nat} (hn:n=1∨n=2∨n=4) (hw:w≤5000):IntKind.wrap .i64 (Int.tdiv (IntKind.wrap .i64 (IntKind.wrap .i64 ((w:Int)*(n:Int))+7)) 8)=(((w*n+7) / 8:Nat):Int):=by
 have hm:w*n≤40000:=by rcases hn with rfl|rfl|rfl<;>omega
 have e:(w:Int)*(n:Int)=((w*n:Nat):Int):=by simp
 rw[e,aQ (n:=((w*n:Nat):Int)) (by omega) (by omega),aQ (n:=((w*n:Nat):Int)+7) (by omega) (by omega),show((w*n:Nat):Int)+7=((w*n+7:Nat):Int) by omega,show Int.tdiv ((w*n+7:Nat):Int) 8=(((w*n+7) / 8:Nat):Int) from rfl,aQ (by omega) (by omega)]
theorem zm (n w hh:Nat) (pal:List Nat) (hn:n=1∨n=2∨n=4) (hw:w≤64) (hhh:hh≤64) (hl:l.length≤100000) (hpal:∀v∈pal,v<4294967296):∀(j y p k:Nat) (e:Int) (out:List Nat),p≤l.length→iH e→y+j=hh→j<k→out.length=y*w→(∀v∈out,v<4294967296) →
  match dl l n w pal j p e out with
  | some (p',e',out')=>ca 200000 k (((pal.length:Nat):Int),(n:Int),(y:Int),(hh:Int),(w:Int),B l,(p:Int),e,nl out,nl pal,b,d,g,t,m0,m1,m2,s0,s1,s2,(sz:Int))=some (.inr (B l,(p':Int),e',nl out'))
  | none=>∃q:Nat,∃e',ca 200000 k (((pal.length:Nat):Int),(n:Int),(y:Int),(hh:Int),(w:Int),B l,(p:Int),e,nl out,nl pal,b,d,g,t,m0,m1,m2,s0,s1,s2,(sz:Int))=some (.inl (false,B l,(q:Int),e',[]))
 | 0,y,p,k+1,e,out,hp,he,hy,hk,ho,hov=>by
  show iy 200000 (ca 200000 k) _=_
  simp only[iy,ae]
  rw[aL (by omega)]
 | j+1,y,p,k+1,e,out,hp,he,hy,hk,ho,hov=>by
  obtain⟨q1,q2,_,_⟩:=bM l ((w*n+7) / 8) p e hp he
  have hyw:y*w+w≤5000:=by
   have:y*w≤64*64:=Nat.mul_le_mul (by omega) hw
   omega
  have hB:ca 200000 (k+1) (((pal.length:Nat):Int),(n:Int),(y:Int),(hh:Int),(w:Int),B l,(p:Int),e,nl out,nl pal,b,d,g,t,m0,m1,m2,s0,s1,s2,(sz:Int)) =
    if ((aD l ((w*n+7) / 8) p e).2.2 != 0)=true then some (.inl (false,B l,(((aD l ((w*n+7) / 8) p e).2.1:Nat):Int),(aD l ((w*n+7) / 8) p e).2.2,[])) else
     (a7 200000 200000 ((w:Int),(w:Int),(hh:Int),(y:Int),B (aD l ((w*n+7) / 8) p e).1,(n:Int),((pal.length:Nat):Int),0,B l,(((aD l ((w*n+7) / 8) p e).2.1:Nat):Int),(aD l ((w*n+7) / 8) p e).2.2,b,d,g,t,m0,m1,m2,s0,s1,s2,(sz:Int),nl pal,nl out)).bind fun r=>match r with
      | .inl y3=>some (.inl (y3.1,y3.2.1,y3.2.2.1,y3.2.2.2.1,y3.2.2.2.2))
      | .inr (z0,z1,z2,z3,z4,z5,z6,z7,z8,z9,z10,z11,z12,z13,z14,z15,z16,z17,z18,z19,z20)=>(ca 200000 k (z1,z2,IntKind.wrap .i64 (z0+1),z3,z4,z5,z6,z7,z8,z9,z10,z11,z12,z13,z14,z15,z16,z17,z18,z19,z20)).bind fun r=>match r with|.inl y=>some (.inl y)|.inr y=>some (.inr y):=by
   show iy 200000 (ca 200000 k) _=_
   generalize ca 200000 k=G
   simp only[iy,ae]
   rw[aK (by omega),XQ hn (by omega),C2 l _ p e hp he hl,Option.bind_some]
   rfl
  rw[hB]
  unfold dl
  by_cases h0:(aD l ((w*n+7) / 8) p e).2.2=0
  ·have hfull:=JB l _ p e h0
   rw[if_neg (by simpa using h0)]
   simp only[h0,bne_self_eq_false,Bool.false_eq_true,if_false]
   have hrow:=FE b d g t m0 m1 m2 s0 s1 s2 sz l (aD l ((w*n+7) / 8) p e).1 n w pal hn hfull (by omega) (y:Int) (hh:Int) (aD l ((w*n+7) / 8) p e).2.1 0 w 0 200000 out (by omega) (by omega) (by omega)
   rw[show((0:Nat):Int)=0 from rfl] at hrow
   cases hr:mf (aD l ((w*n+7) / 8) p e).1 n pal w 0 out with
   | none =>
    rw[hr] at hrow
    simp only at hrow ⊢
    rw[hrow]
    exact⟨_,_,rfl⟩
   | some o1 =>
    rw[hr] at hrow
    simp only at hrow ⊢
    rw[hrow]
    obtain⟨o2,o3⟩:=rH _ n pal hpal w 0 out o1 hov hr
    have ih:=zm n w hh pal hn hw hhh hl hpal j (y+1) (aD l ((w*n+7) / 8) p e).2.1 k 0 o1 q1 (.inl rfl) (by omega) (by omega) (by rw[o2,ho,Nat.add_mul];omega) o3
    simp only[Option.bind_some]
    rw[aQ (by omega) (by omega),show(y:Int)+1=((y+1:Nat):Int) by omega]
    cases hp2:dl l n w pal j (aD l ((w*n+7) / 8) p e).2.1 0 o1 with
    | none =>
     rw[hp2] at ih
     obtain⟨q,e',h⟩:=ih
     exact⟨q,e',by rw[h];rfl⟩
    | some r =>
     rw[hp2] at ih
     simp only at ih ⊢
     rw[ih];rfl
  ·rw[if_pos h0,if_pos (by simpa using h0)]
   exact⟨_,_,rfl⟩
theorem zi (n w hh:Nat) (pal:List Nat) (hn:n=1∨n=2∨n=4) (hw:w≤64) (hhh:hh≤64) (hl:l.length≤100000) (hpal:∀v∈pal,v<4294967296):∀(j y p k:Nat) (e:Int) (out:List Nat),p≤l.length→iH e→y+j=hh→j<k→out.length=y*w→(∀v∈out,v<4294967296) →
  match dl l n w pal j p e out with
  | some (p',e',out')=>cr 200000 k (((pal.length:Nat):Int),(n:Int),(y:Int),(hh:Int),(w:Int),b,d,g,t,m0,m1,m2,s0,s1,s2,(sz:Int),B l,(p:Int),e,nl out,nl pal)=some (.inr (b,d,g,t,m0,m1,m2,s0,s1,s2,(sz:Int),B l,(p':Int),e',nl out'))
  | none=>∃q:Nat,∃e',cr 200000 k (((pal.length:Nat):Int),(n:Int),(y:Int),(hh:Int),(w:Int),b,d,g,t,m0,m1,m2,s0,s1,s2,(sz:Int),B l,(p:Int),e,nl out,nl pal)=some (.inl (false,b,d,g,t,m0,m1,m2,s0,s1,s2,(sz:Int),B l,(q:Int),e',[]))
 | 0,y,p,k+1,e,out,hp,he,hy,hk,ho,hov=>by
  show kO 200000 (cr 200000 k) _=_
  simp only[kO,ae]
  rw[aL (by omega)]
 | j+1,y,p,k+1,e,out,hp,he,hy,hk,ho,hov=>by
  obtain⟨q1,q2,_,_⟩:=bM l ((w*n+7) / 8) p e hp he
  have hyw:y*w+w≤5000:=by
   have:y*w≤64*64:=Nat.mul_le_mul (by omega) hw
   omega
  have hbw:(w*n+7) / 8≤100000:=by rcases hn with rfl|rfl|rfl<;>omega
  have hB:cr 200000 (k+1) (((pal.length:Nat):Int),(n:Int),(y:Int),(hh:Int),(w:Int),b,d,g,t,m0,m1,m2,s0,s1,s2,(sz:Int),B l,(p:Int),e,nl out,nl pal) =
    if ((aD l ((w*n+7) / 8) p e).2.2 != 0)=true then some (.inl (false,b,d,g,t,m0,m1,m2,s0,s1,s2,(sz:Int),B l,(((aD l ((w*n+7) / 8) p e).2.1:Nat):Int),(aD l ((w*n+7) / 8) p e).2.2,[])) else
     (bH 200000 200000 ((w:Int),(hh:Int),(y:Int),B (aD l ((w*n+7) / 8) p e).1,(n:Int),((pal.length:Nat):Int),0,b,d,g,t,m0,m1,m2,s0,s1,s2,(sz:Int),B l,(((aD l ((w*n+7) / 8) p e).2.1:Nat):Int),(aD l ((w*n+7) / 8) p e).2.2,nl pal,nl out)).bind fun r=>match r with
      | .inl (z0,z1,z2,z3,z4,z5,z6,z7,z8,z9,z10,z11,z12,z13,z14,z15)=>some (.inl (z0,z1,z2,z3,z4,z5,z6,z7,z8,z9,z10,z11,z12,z13,z14,z15))
      | .inr (z0,z1,z2,z3,z4,z5,z6,z7,z8,z9,z10,z11,z12,z13,z14,z15,z16,z17,z18,z19,z20)=>(cr 200000 k (z1,z2,IntKind.wrap .i64 (z0+1),z3,z4,z5,z6,z7,z8,z9,z10,z11,z12,z13,z14,z15,z16,z17,z18,z19,z20)).bind fun r=>match r with|.inl y=>some (.inl y)|.inr y=>some (.inr y):=by
   show kO 200000 (cr 200000 k) _=_
   generalize cr 200000 k=G
   simp only[kO,ae]
   rw[aK (by omega),XQ hn (by omega),CZ l _ p e hp he hl hbw,Option.bind_some]
   rfl
  rw[hB]
  unfold dl
  by_cases h0:(aD l ((w*n+7) / 8) p e).2.2=0
  ·have hfull:=JB l _ p e h0
   rw[if_neg (by simpa using h0)]
   simp only[h0,bne_self_eq_false,Bool.false_eq_true,if_false]
   have hrow:=FC b d g t m0 m1 m2 s0 s1 s2 sz l (aD l ((w*n+7) / 8) p e).1 n w pal hn hfull (by omega) (y:Int) (hh:Int) (aD l ((w*n+7) / 8) p e).2.1 0 w 0 200000 out (by omega) (by omega) (by omega)
   rw[show((0:Nat):Int)=0 from rfl] at hrow
   cases hr:mf (aD l ((w*n+7) / 8) p e).1 n pal w 0 out with
   | none =>
    rw[hr] at hrow
    simp only at hrow ⊢
    rw[hrow]
    exact⟨_,_,rfl⟩
   | some o1 =>
    rw[hr] at hrow
    simp only at hrow ⊢
    rw[hrow]
    obtain⟨o2,o3⟩:=rH _ n pal hpal w 0 out o1 hov hr
    have ih:=zi n w hh pal hn hw hhh hl hpal j (y+1) (aD l ((w*n+7) / 8) p e).2.1 k 0 o1 q1 (.inl rfl) (by omega) (by omega) (by rw[o2,ho,Nat.add_mul];omega) o3
    simp only[Option.bind_some]
    rw[aQ (by omega) (by omega),show(y:Int)+1=((y+1:Nat):Int) by omega]
    cases hp2:dl l n w pal j (aD l ((w*n+7) / 8) p e).2.1 0 o1 with
    | none =>
     rw[hp2] at ih
     obtain⟨q,e',h⟩:=ih
     exact⟨q,e',by rw[h];rfl⟩
    | some r =>
     rw[hp2] at ih
     simp only at ih ⊢
     rw[ih];rfl
  ·rw[if_pos h0,if_pos (by simpa using h0)]
   exact⟨_,_,rfl⟩
end
end Go.Proofs.YtfcamlibbfnldaaGreat.Am
set_option maxRecDepth 100000
namespace Go.Proofs.YtfcamlibbfnldaaGreat.Am
open Go.Am
section
variable (b d:Int) (g t:Bool) (m0 m1 m2 s0 s1 s2:Int) (sz sh:Nat) (l:List UInt8)
def fb (w h p:Nat) (e:Int):Option (Nat×Int×List Nat) :=
 if (aD l 1 p e).2.2≠0 then none
 else if au l p e=0 then some (aN g sz sh l (w*h) (aD l 1 p e).2.1 0 [])
 else if au l p e=1 then some ((aD l sz (aD l 1 p e).2.1 0).2.1,(aD l sz (aD l 1 p e).2.1 0).2.2,List.replicate (w*h) (jr g sz sh l (aD l 1 p e).2.1 0))
 else if au l p e≤16 then dl l (wd (au l p e)) w (aN g sz sh l (au l p e) (aD l 1 p e).2.1 0 []).2.2 h (aN g sz sh l (au l p e) (aD l 1 p e).2.1 0 []).1 (aN g sz sh l (au l p e) (aD l 1 p e).2.1 0 []).2.1 []
 else if au l p e=128∨130≤au l p e then bJ g sz sh l (aN g sz sh l (au l p e-128) (aD l 1 p e).2.1 0 []).2.2 (w*h) 200000 (aN g sz sh l (au l p e-128) (aD l 1 p e).2.1 0 []).1 (aN g sz sh l (au l p e-128) (aD l 1 p e).2.1 0 []).2.1 []
 else none
theorem Dl (h4:sz≤4) (hsh:sh=0∨sh=8∧sz=3) (hl:l.length≤100000) (w h p:Nat) (e:Int) (hp:p≤l.length) (he:iH e) (p':Nat) (e':Int) (vs:List Nat) (hr:fb g sz sh l w h p e=some (p',e',vs)) :
  p'≤l.length∧iH e'∧vs.length=w*h∧∀v∈vs,v<4294967296:=by
 obtain⟨q1,q2,_,_⟩:=bM l 1 p e hp he
 have hnil:∀v∈([]:List Nat),v<4294967296:=fun v hv=>by cases hv
 unfold fb at hr
 split at hr
 ·cases hr
 ·split at hr
  ·obtain⟨a1,a2,a3,a4⟩:=dZ g sz sh l h4 hsh (w*h) (aD l 1 p e).2.1 0 [] q1 (.inl rfl) hnil
   have h5:=Option.some.inj hr
   rw[h5] at a1 a2 a3 a4
   exact⟨a1,a2,by simpa using a3,a4⟩
  ·split at hr
   ·obtain⟨a1,a2,_,_⟩:=bM l sz (aD l 1 p e).2.1 0 q1 (.inl rfl)
    have hv:=PV g sz sh h4 hsh (aD l sz (aD l 1 p e).2.1 0).1 (nz l sz (aD l 1 p e).2.1 0)
    have h5:=Option.some.inj hr
    simp only[Prod.mk.injEq] at h5
    obtain⟨e1,e2,e3⟩:=h5
    rw[←e1,←e2,←e3]
    exact⟨a1,a2,by simp,fun v hv2=>by rw[(List.mem_replicate.1 hv2).2];exact hv⟩
   ·split at hr
    ·obtain⟨a1,a2,a3,a4⟩:=dZ g sz sh l h4 hsh (au l p e) (aD l 1 p e).2.1 0 [] q1 (.inl rfl) hnil
     obtain⟨c1,c2,c3,c4⟩:=DT l _ w _ a4 h _ _ [] a1 a2 hnil p' e' vs hr
     exact⟨c1,c2,by rw[c3];simp[Nat.mul_comm],c4⟩
    ·split at hr
     ·obtain⟨a1,a2,a3,a4⟩:=dZ g sz sh l h4 hsh (au l p e-128) (aD l 1 p e).2.1 0 [] q1 (.inl rfl) hnil
      exact Dz g sz sh l h4 hsh _ (w*h) hl a4 200000 _ _ [] a1 a2 (by simp) hnil p' e' vs hr
     ·cases hr
theorem OD (v:Int) (i j:Nat):(List.replicate i v++List.replicate (j+1) 0).set i v=List.replicate (i+1) v++List.replicate j (0:Int):=by
 rw[List.set_append_right _ _ (by simp),List.length_replicate,Nat.sub_self,List.replicate_succ (n:=j),List.set_cons_zero,List.replicate_succ' (n:=i),List.append_assoc]
 rfl
theorem Fc (v:Int) (p:Nat) (e:Int):∀(j i k:Nat),j<k→i+j≤100000 →
  db 200000 k ((i:Int),((i+j:Nat):Int),v,B l,(p:Int),e,List.replicate i v++List.replicate j 0)=some (B l,(p:Int),e,List.replicate (i+j) v)
 | 0,i,k+1,hk,hi=>by
  show eX 200000 (db 200000 k) _=_
  simp only[eX,ae]
  rw[aL (by omega)]
  simp
 | j+1,i,k+1,hk,hi=>by
  have ih:=Fc v p e j (i+1) k (by omega) (by omega)
  show eX 200000 (db 200000 k) _=_
  generalize db 200000 k=G at *
  simp only[eX,ae]
  rw[aK (by omega),if_pos (am (by simp)),Int.toNat_natCast]
  rw[show(List.replicate i v++List.replicate (j+1) (0:Int))[i]?=some 0 by rw[List.getElem?_append_right (by simp)];simp]
  rw[Option.bind_some,OD,aQ (by omega) (by omega),show(i:Int)+1=((i+1:Nat):Int) by omega,show i+(j+1)=i+1+j by omega,ih,Option.bind_some]
theorem Fa (w h:Nat) (hw:w*h≤10000) (v:Nat) (p:Nat) (e:Int):∀(j i k:Nat),i+j=w*h→j<k →
  fz 200000 k ((i:Int),(w:Int),(h:Int),(v:Int),b,d,g,t,m0,m1,m2,s0,s1,s2,(sz:Int),B l,(p:Int),e,nl (List.replicate i v))=some (b,d,g,t,m0,m1,m2,s0,s1,s2,(sz:Int),B l,(p:Int),e,nl (List.replicate (w*h) v))
 | 0,i,k+1,hi,hk=>by
  show kN 200000 (fz 200000 k) _=_
  simp only[kN,ae]
  rw[show(w:Int)*(h:Int)=((w*h:Nat):Int) by simp,aQ (by omega) (by omega),aL (by omega),show i=w*h by omega]
 | j+1,i,k+1,hi,hk=>by
  have ih:=Fa w h hw v p e j (i+1) k (by omega) (by omega)
  show kN 200000 (fz 200000 k) _=_
  generalize fz 200000 k=G at *
  simp only[kN,ae]
  rw[show(w:Int)*(h:Int)=((w*h:Nat):Int) by simp,aQ (n:=((w*h:Nat):Int)) (by omega) (by omega),aK (by omega),aK (by rw[aj];simp;omega),gv,dI,aQ (by omega) (by omega),show(i:Int)+1=((i+1:Nat):Int) by omega,←List.replicate_succ',ih,Option.bind_some]
variable (hv:jm b d t m0 m1 m2 s0 s1 s2=true) (h37:Fg 200000 (b,d,g,t,m0,m1,m2,s0,s1,s2)=some ((sz:Int),(sh:Int))) (h87:TQ 200000 (b,d,g,t,m0,m1,m2,s0,s1,s2)=some ((sz:Int),(sh:Int))) (h1:1≤sz) (h4:sz≤4) (hsh:sh=0∨sh=8∧sz=3) (hl:l.length≤100000)
include hv h37 h87 h1 h4 hsh hl
theorem SB (w h p:Nat) (e:Int) (hw:w≤64) (hh:h≤64) (hp:p≤l.length) (he:iH e):match fb g sz sh l w h p e with
  | some (p',e',vs)=>F83 200000 (b,d,g,t,m0,m1,m2,s0,s1,s2,(sz:Int),(w:Int),(h:Int),B l,(p:Int),e)=some (true,B l,(p':Int),e',nl vs)
  | none=>∃q:Nat,∃e',F83 200000 (b,d,g,t,m0,m1,m2,s0,s1,s2,(sz:Int),(w:Int),(h:Int),B l,(p:Int),e)=some (false,B l,(q:Int),e',[]):=by
 obtain⟨q1,q2,_,_⟩:=bM l 1 p e hp he
 have hb:=k9 l p e
 have hwh:w*h≤4096:=Nat.mul_le_mul hw hh
 have hnil:∀v∈([]:List Nat),v<4294967296:=fun v hv=>by cases hv
 have ew:IntKind.wrap .i64 ((w:Int)*(h:Int))=((w*h:Nat):Int):=by rw[show(w:Int)*(h:Int)=((w*h:Nat):Int) by simp,aQ (by omega) (by omega)]
 unfold fb
 simp only[F83,ae,ew]
 rw[ky l p e hp he hl]
 simp only[Option.bind_some]
 rw[show TR 200000 (B l,(((aD l 1 p e).2.1:Nat):Int),(aD l 1 p e).2.2,())=some (aD l 1 p e).2.2 from rfl]
 simp only[Option.bind_some]
 by_cases h0:(aD l 1 p e).2.2=0
 ·rw[if_neg (by simpa using h0)]
  simp only[h0,bne_self_eq_false,Bool.false_eq_true,if_false]
  by_cases c0:au l p e=0
  ·rw[if_pos c0]
   simp only[c0]
   rw[if_pos (by decide),qt b d g t m0 m1 m2 s0 s1 s2 sz sh l hv h37 h87 h1 h4 hsh hl (w*h) _ 0 q1 (.inl rfl) (by omega),Option.bind_some]
  ·rw[if_neg c0]
   have n0:((au l p e:Int)==0)=false:=by simp only[beq_eq_false_iff_ne,ne_eq];omega
   rw[n0]
   simp only[Bool.false_eq_true,if_false]
   by_cases c1:au l p e=1
   ·rw[if_pos c1]
    have n1:((au l p e:Int)==1)=true:=by simp[c1]
    rw[n1]
    simp only[if_true]
    rw[v6 b d g t m0 m1 m2 s0 s1 s2 sz sh hv h37 h1 h4 hsh l _ 0 q1 (.inl rfl) hl,Option.bind_some]
    simp only
    rw[aK (by omega),Int.toNat_natCast,List.length_replicate]
    have hf:=Fc l ((jr g sz sh l (aD l 1 p e).2.1 0:Nat):Int) (aD l sz (aD l 1 p e).2.1 0).2.1 (aD l sz (aD l 1 p e).2.1 0).2.2 (w*h) 0 200000 (by omega) (by omega)
    rw[Nat.zero_add,List.replicate_zero,List.nil_append] at hf
    rw[show(0:Int)=((0:Nat):Int) from rfl] at *
    rw[hf,Option.bind_some]
    simp[nl]
   ·rw[if_neg c1]
    have n1:((au l p e:Int)==1)=false:=by simp only[beq_eq_false_iff_ne,ne_eq];omega
    rw[n1]
    simp only[Bool.false_eq_true,if_false]
    by_cases c16:au l p e≤16
    ·rw[if_pos c16,aK (by omega)]
     obtain⟨a1,a2,a3,a4⟩:=dZ g sz sh l h4 hsh (au l p e) (aD l 1 p e).2.1 0 [] q1 (.inl rfl) hnil
     have ev:=qt b d g t m0 m1 m2 s0 s1 s2 sz sh l hv h37 h87 h1 h4 hsh hl (au l p e) _ 0 q1 (.inl rfl) (by omega)
     generalize aN g sz sh l (au l p e) (aD l 1 p e).2.1 0 []=vr at *
     obtain⟨p2,e2,pal⟩:=vr
     simp only at a1 a2 a3 a4 ev ⊢
     rw[List.length_nil,Nat.zero_add] at a3
     have hloop:=zm b d g t m0 m1 m2 s0 s1 s2 sz l (wd (au l p e)) w h pal (PT _) hw hh hl a4 h 0 p2 200000 e2 [] a1 a2 (by omega) (by omega) (by simp) hnil
     rw[a3] at hloop
     have hF:Tp 200000 (b,d,g,t,m0,m1,m2,s0,s1,s2,(sz:Int),(au l p e:Int),(w:Int),(h:Int),B l,(((aD l 1 p e).2.1:Nat):Int),0)=(ca 200000 200000 ((au l p e:Int),((wd (au l p e):Nat):Int),((0:Nat):Int),(h:Int),(w:Int),B l,(p2:Int),e2,nl [],nl pal,b,d,g,t,m0,m1,m2,s0,s1,s2,(sz:Int))).bind fun r=>match r with
       | .inl y3=>some (y3.1,y3.2.1,y3.2.2.1,y3.2.2.2.1,y3.2.2.2.2)
       | .inr y3=>some (true,y3.1,y3.2.1,y3.2.2.1,y3.2.2.2):=by
      simp only[Tp]
      rw[ev,Option.bind_some,(sC _).1,Option.bind_some]
      rfl
     rw[hF]
     cases hpk:dl l (wd (au l p e)) w pal h p2 e2 [] with
     | none =>
      rw[hpk] at hloop
      obtain⟨q,e',hx⟩:=hloop
      exact⟨q,e',by rw[hx];rfl⟩
     | some r =>
      rw[hpk] at hloop
      simp only at hloop ⊢
      rw[hloop];rfl
    ·rw[if_neg c16,aL (by omega)]
     have runs:∀k:Nat,k≤200→IntKind.wrap .i64 ((au l p e:Int)-128)=(k:Int) →
       match bJ g sz sh l (aN g sz sh l k (aD l 1 p e).2.1 0 []).2.2 (w*h) 200000 (aN g sz sh l k (aD l 1 p e).2.1 0 []).1 (aN g sz sh l k (aD l 1 p e).2.1 0 []).2.1 [] with
       | some (p',e',vs)=>(FD 200000 (b,d,g,t,m0,m1,m2,s0,s1,s2,(sz:Int),(k:Int),((w*h:Nat):Int),B l,(((aD l 1 p e).2.1:Nat):Int),0)).bind (fun y6=>some (y6.1,y6.2.1,y6.2.2.1,y6.2.2.2.1,y6.2.2.2.2))=some (true,B l,(p':Int),e',nl vs)
       | none=>∃q:Nat,∃e',(FD 200000 (b,d,g,t,m0,m1,m2,s0,s1,s2,(sz:Int),(k:Int),((w*h:Nat):Int),B l,(((aD l 1 p e).2.1:Nat):Int),0)).bind (fun y6=>some (y6.1,y6.2.1,y6.2.2.1,y6.2.2.2.1,y6.2.2.2.2))=some (false,B l,(q:Int),e',[]):=by
      intro k hk _
      obtain⟨a1,a2,a3,a4⟩:=dZ g sz sh l h4 hsh k (aD l 1 p e).2.1 0 [] q1 (.inl rfl) hnil
      have ev:=qt b d g t m0 m1 m2 s0 s1 s2 sz sh l hv h37 h87 h1 h4 hsh hl k _ 0 q1 (.inl rfl) (by omega)
      generalize aN g sz sh l k (aD l 1 p e).2.1 0 []=vr at *
      obtain⟨p2,e2,pal⟩:=vr
      simp only at a1 a2 a3 a4 ev ⊢
      rw[List.length_nil,Nat.zero_add] at a3
      have hloop:=zk b d g t m0 m1 m2 s0 s1 s2 sz sh l hv h37 h87 h1 h4 hsh hl pal (by omega) a4 (w*h) (by omega) 200000 p2 200000 e2 [] a1 a2 (by simp) (by simp;omega) (by omega)
      have hF:FD 200000 (b,d,g,t,m0,m1,m2,s0,s1,s2,(sz:Int),(k:Int),((w*h:Nat):Int),B l,(((aD l 1 p e).2.1:Nat):Int),0)=(cA 200000 200000 (((w*h:Nat):Int),B l,(p2:Int),e2,nl pal,b,d,g,t,m0,m1,m2,s0,s1,s2,(sz:Int),nl [])).bind fun r=>match r with
        | .inl y3=>some (y3.1,y3.2.1,y3.2.2.1,y3.2.2.2.1,y3.2.2.2.2)
        | .inr y3=>some (true,y3.1,y3.2.1,y3.2.2.1,y3.2.2.2):=by
       simp only[FD]
       rw[ev,Option.bind_some]
       rfl
      rw[hF]
      cases hpk:bJ g sz sh l pal (w*h) 200000 p2 e2 [] with
      | none =>
       rw[hpk] at hloop
       obtain⟨q,e',hx⟩:=hloop
       exact⟨q,e',by rw[hx];rfl⟩
      | some r =>
       rw[hpk] at hloop
       simp only at hloop ⊢
       rw[hloop];rfl
     by_cases c128:au l p e=128
     ·rw[if_pos (show au l p e=128∨130≤au l p e from .inl c128),if_pos (show((au l p e:Int)==128)=true by simp[c128])]
      have ek:IntKind.wrap .i64 ((au l p e:Int)-128)=((au l p e-128:Nat):Int):=by rw[aQ (by omega) (by omega)];omega
      rw[ek]
      exact runs (au l p e-128) (by omega) ek
     ·rw[if_neg (show ¬((au l p e:Int)==128)=true by simp only[beq_iff_eq];omega)]
      by_cases c130:130≤au l p e
      ·rw[if_pos (show au l p e=128∨130≤au l p e from .inr c130),aK (show(au l p e:Int)≥130 by omega)]
       have ek:IntKind.wrap .i64 ((au l p e:Int)-128)=((au l p e-128:Nat):Int):=by rw[aQ (by omega) (by omega)];omega
       rw[ek]
       exact runs (au l p e-128) (by omega) ek
      ·rw[if_neg (show ¬(au l p e=128∨130≤au l p e) by omega),aL (show ¬(au l p e:Int)≥130 by omega)]
       exact⟨_,_,rfl⟩
 ·rw[if_pos h0,if_pos (by simpa using h0)]
  exact⟨_,_,rfl⟩
theorem SA (w h p:Nat) (e:Int) (hw:w≤64) (hh:h≤64) (hp:p≤l.length) (he:iH e):match fb g sz sh l w h p e with
  | some (p',e',vs)=>F88 200000 ((w:Int),(h:Int),b,d,g,t,m0,m1,m2,s0,s1,s2,(sz:Int),B l,(p:Int),e)=some (true,b,d,g,t,m0,m1,m2,s0,s1,s2,(sz:Int),B l,(p':Int),e',nl vs)
  | none=>∃q:Nat,∃e',F88 200000 ((w:Int),(h:Int),b,d,g,t,m0,m1,m2,s0,s1,s2,(sz:Int),B l,(p:Int),e)=some (false,b,d,g,t,m0,m1,m2,s0,s1,s2,(sz:Int),B l,(q:Int),e',[]):=by
 obtain⟨q1,q2,_,_⟩:=bM l 1 p e hp he
 have hb:=k9 l p e
 have hwh:w*h≤4096:=Nat.mul_le_mul hw hh
 have hnil:∀v∈([]:List Nat),v<4294967296:=fun v hv=>by cases hv
 have ew:IntKind.wrap .i64 ((w:Int)*(h:Int))=((w*h:Nat):Int):=by rw[show(w:Int)*(h:Int)=((w*h:Nat):Int) by simp,aQ (by omega) (by omega)]
 unfold fb
 simp only[F88,ae,ew]
 rw[kw l p e hp he hl]
 simp only[Option.bind_some]
 by_cases h0:(aD l 1 p e).2.2=0
 ·rw[if_neg (by simpa using h0)]
  simp only[h0,bne_self_eq_false,Bool.false_eq_true,if_false]
  by_cases c0:au l p e=0
  ·rw[if_pos c0]
   simp only[c0]
   rw[if_pos (by decide),qs b d g t m0 m1 m2 s0 s1 s2 sz sh l hv h37 h87 h1 h4 hsh hl (w*h) _ 0 q1 (.inl rfl) (by omega),Option.bind_some]
  ·rw[if_neg c0]
   have n0:((au l p e:Int)==0)=false:=by simp only[beq_eq_false_iff_ne,ne_eq];omega
   rw[n0]
   simp only[Bool.false_eq_true,if_false]
   by_cases c1:au l p e=1
   ·rw[if_pos c1]
    have n1:((au l p e:Int)==1)=true:=by simp[c1]
    rw[n1]
    simp only[if_true]
    rw[vZ b d g t m0 m1 m2 s0 s1 s2 sz sh h87 h1 h4 hsh l _ 0 q1 (.inl rfl) hl,Option.bind_some]
    simp only
    have hf:=Fa b d g t m0 m1 m2 s0 s1 s2 sz l w h (by omega) (jr g sz sh l (aD l 1 p e).2.1 0) (aD l sz (aD l 1 p e).2.1 0).2.1 (aD l sz (aD l 1 p e).2.1 0).2.2 (w*h) 0 200000 (by omega) (by omega)
    rw[List.replicate_zero] at hf
    have hf':fz 200000 200000 (0,(w:Int),(h:Int),((jr g sz sh l (aD l 1 p e).2.1 0:Nat):Int),b,d,g,t,m0,m1,m2,s0,s1,s2,(sz:Int),B l,(((aD l sz (aD l 1 p e).2.1 0).2.1:Nat):Int),(aD l sz (aD l 1 p e).2.1 0).2.2,[])=_:=hf
    rw[hf',Option.bind_some]
   ·rw[if_neg c1]
    have n1:((au l p e:Int)==1)=false:=by simp only[beq_eq_false_iff_ne,ne_eq];omega
    rw[n1]
    simp only[Bool.false_eq_true,if_false]
    by_cases c16:au l p e≤16
    ·rw[if_pos c16,aK (by omega)]
     obtain⟨a1,a2,a3,a4⟩:=dZ g sz sh l h4 hsh (au l p e) (aD l 1 p e).2.1 0 [] q1 (.inl rfl) hnil
     have ev:=qs b d g t m0 m1 m2 s0 s1 s2 sz sh l hv h37 h87 h1 h4 hsh hl (au l p e) _ 0 q1 (.inl rfl) (by omega)
     generalize aN g sz sh l (au l p e) (aD l 1 p e).2.1 0 []=vr at *
     obtain⟨p2,e2,pal⟩:=vr
     simp only at a1 a2 a3 a4 ev ⊢
     rw[List.length_nil,Nat.zero_add] at a3
     have hloop:=zi b d g t m0 m1 m2 s0 s1 s2 sz l (wd (au l p e)) w h pal (PT _) hw hh hl a4 h 0 p2 200000 e2 [] a1 a2 (by omega) (by omega) (by simp) hnil
     rw[a3] at hloop
     cases hpk:dl l (wd (au l p e)) w pal h p2 e2 [] with
     | none =>
      rw[hpk] at hloop
      obtain⟨q,e',hx⟩:=hloop
      refine⟨q,e',?_⟩
      simp only[ap5]
      rw[ev,Option.bind_some]
      simp only
      rw[(sC _).2,Option.bind_some]
      have hx':cr 200000 200000 ((au l p e:Int),((wd (au l p e):Nat):Int),0,(h:Int),(w:Int),b,d,g,t,m0,m1,m2,s0,s1,s2,(sz:Int),B l,(p2:Int),e2,[],nl pal)=_:=hx
      rw[hx']
      rfl
     | some r =>
      rw[hpk] at hloop
      simp only at hloop ⊢
      simp only[ap5]
      rw[ev,Option.bind_some]
      simp only
      rw[(sC _).2,Option.bind_some]
      have hx':cr 200000 200000 ((au l p e:Int),((wd (au l p e):Nat):Int),0,(h:Int),(w:Int),b,d,g,t,m0,m1,m2,s0,s1,s2,(sz:Int),B l,(p2:Int),e2,[],nl pal)=_:=hloop
      rw[hx']
      rfl
    ·rw[if_neg c16,aL (by omega)]
     have runs:∀k:Nat,k≤200 →
       match bJ g sz sh l (aN g sz sh l k (aD l 1 p e).2.1 0 []).2.2 (w*h) 200000 (aN g sz sh l k (aD l 1 p e).2.1 0 []).1 (aN g sz sh l k (aD l 1 p e).2.1 0 []).2.1 [] with
       | some (p',e',vs)=>Pn 200000 ((k:Int),((w*h:Nat):Int),b,d,g,t,m0,m1,m2,s0,s1,s2,(sz:Int),B l,(((aD l 1 p e).2.1:Nat):Int),0)=some (true,b,d,g,t,m0,m1,m2,s0,s1,s2,(sz:Int),B l,(p':Int),e',nl vs)
       | none=>∃q:Nat,∃e',Pn 200000 ((k:Int),((w*h:Nat):Int),b,d,g,t,m0,m1,m2,s0,s1,s2,(sz:Int),B l,(((aD l 1 p e).2.1:Nat):Int),0)=some (false,b,d,g,t,m0,m1,m2,s0,s1,s2,(sz:Int),B l,(q:Int),e',[]):=by
      intro k hk
      obtain⟨a1,a2,a3,a4⟩:=dZ g sz sh l h4 hsh k (aD l 1 p e).2.1 0 [] q1 (.inl rfl) hnil
      have ev:=qs b d g t m0 m1 m2 s0 s1 s2 sz sh l hv h37 h87 h1 h4 hsh hl k _ 0 q1 (.inl rfl) (by omega)
      generalize aN g sz sh l k (aD l 1 p e).2.1 0 []=vr at *
      obtain⟨p2,e2,pal⟩:=vr
      simp only at a1 a2 a3 a4 ev ⊢
      rw[List.length_nil,Nat.zero_add] at a3
      have hloop:=zg b d g t m0 m1 m2 s0 s1 s2 sz sh l hv h37 h87 h1 h4 hsh hl pal (by omega) a4 (w*h) (by omega) 200000 p2 200000 e2 [] a1 a2 (by simp) (by simp;omega) (by omega)
      rw[a3] at hloop
      cases hpk:bJ g sz sh l pal (w*h) 200000 p2 e2 [] with
      | none =>
       rw[hpk] at hloop
       obtain⟨q,e',hx⟩:=hloop
       refine⟨q,e',?_⟩
       simp only[Pn]
       rw[ev,Option.bind_some]
       simp only
       have hx':eL 200000 200000 ((k:Int),((w*h:Nat):Int),b,d,g,t,m0,m1,m2,s0,s1,s2,(sz:Int),B l,(p2:Int),e2,[],nl pal)=_:=hx
       rw[hx']
       rfl
      | some r =>
       rw[hpk] at hloop
       simp only at hloop ⊢
       simp only[Pn]
       rw[ev,Option.bind_some]
       simp only
       have hx':eL 200000 200000 ((k:Int),((w*h:Nat):Int),b,d,g,t,m0,m1,m2,s0,s1,s2,(sz:Int),B l,(p2:Int),e2,[],nl pal)=_:=hloop
       rw[hx']
       rfl
     have ek:128≤au l p e→IntKind.wrap .i64 ((au l p e:Int)-128)=((au l p e-128:Nat):Int):=fun hk=>by rw[aQ (by omega) (by omega)];omega
     have hr:=runs (au l p e-128) (by omega)
     by_cases c128:au l p e=128
     ·rw[if_pos (show au l p e=128∨130≤au l p e from .inl c128),if_pos (show((au l p e:Int)==128)=true by simp[c128]),ek (by omega)]
      cases hpk:bJ g sz sh l (aN g sz sh l (au l p e-128) (aD l 1 p e).2.1 0 []).2.2 (w*h) 200000 (aN g sz sh l (au l p e-128) (aD l 1 p e).2.1 0 []).1 (aN g sz sh l (au l p e-128) (aD l 1 p e).2.1 0 []).2.1 [] with
      | none =>
       rw[hpk] at hr
       obtain⟨q,e',hx⟩:=hr
       exact⟨q,e',by rw[hx];rfl⟩
      | some r =>
       rw[hpk] at hr
       simp only at hr ⊢
       rw[hr];rfl
     ·rw[if_neg (show ¬((au l p e:Int)==128)=true by simp only[beq_iff_eq];omega)]
      by_cases c130:130≤au l p e
      ·rw[if_pos (show au l p e=128∨130≤au l p e from .inr c130),aK (show(au l p e:Int)≥130 by omega),ek (by omega)]
       cases hpk:bJ g sz sh l (aN g sz sh l (au l p e-128) (aD l 1 p e).2.1 0 []).2.2 (w*h) 200000 (aN g sz sh l (au l p e-128) (aD l 1 p e).2.1 0 []).1 (aN g sz sh l (au l p e-128) (aD l 1 p e).2.1 0 []).2.1 [] with
       | none =>
        rw[hpk] at hr
        obtain⟨q,e',hx⟩:=hr
        exact⟨q,e',by rw[hx];rfl⟩
       | some r =>
        rw[hpk] at hr
        simp only at hr ⊢
        rw[hr];rfl
      ·rw[if_neg (show ¬(au l p e=128∨130≤au l p e) by omega),aL (show ¬(au l p e:Int)≥130 by omega)]
       exact⟨_,_,rfl⟩
 ·rw[if_pos h0,if_pos (by simpa using h0)]
  exact⟨_,_,rfl⟩
end
end Go.Proofs.YtfcamlibbfnldaaGreat.Am
set_option maxRecDepth 100000
namespace Go.Proofs.YtfcamlibbfnldaaGreat.Am
open Go.Am
abbrev bK:=Nat×Nat×Nat×Nat
def rc (r:bK):Int×Int×Int×Int×Unit:=((r.1:Int),(r.2.1:Int),(r.2.2.1:Int),(r.2.2.2:Int),())
def cE (w h y:Nat):Nat→Nat→List bK→List bK
 | 0,_,acc=>acc
 | k+1,x,acc=>if x<w then cE w h y k (x+64) (acc++[(x,y,min (w-x) 64,min (h-y) 64)]) else acc
def gz (w h:Nat):Nat→Nat→List bK→List bK
 | 0,_,acc=>acc
 | k+1,y,acc=>if y<h then gz w h k (y+64) (cE w h y 70 0 acc) else acc
def dj (w h:Nat) (r:bK):Prop:=1≤r.2.2.1∧r.2.2.1≤64∧1≤r.2.2.2∧r.2.2.2≤64∧r.1+r.2.2.1≤w∧r.2.1+r.2.2.2≤h
theorem Jw (w h y:Nat) (hy:y<h):∀(k x:Nat) (acc:List bK),(∀r∈acc,dj w h r)→(∀r∈cE w h y k x acc,dj w h r)∧(cE w h y k x acc).length≤acc.length+k
 | 0,x,acc,ha=>⟨ha,by simp[cE]⟩
 | k+1,x,acc,ha=>by
  unfold cE
  split
  ·rename_i hx
   obtain⟨a1,a2⟩:=Jw w h y hy k (x+64) (acc++[(x,y,min (w-x) 64,min (h-y) 64)]) (by
    intro r hr
    rcases List.mem_append.1 hr with h1|h1
    ·exact ha r h1
    ·rw[List.mem_singleton] at h1
     rw[h1]
     exact⟨by simp only;omega,by simp only;omega,by simp only;omega,by simp only;omega,by simp only;omega,by simp only;omega⟩)
   exact⟨a1,by rw[List.length_append] at a2;simp at a2;omega⟩
  ·exact⟨ha,by omega⟩
theorem J2 (w h:Nat):∀(k y:Nat) (acc:List bK),(∀r∈acc,dj w h r)→(∀r∈gz w h k y acc,dj w h r)∧(gz w h k y acc).length≤acc.length+70*k
 | 0,y,acc,ha=>⟨ha,by simp[gz]⟩
 | k+1,y,acc,ha=>by
  unfold gz
  split
  ·rename_i hy
   obtain⟨b1,b2⟩:=Jw w h y hy 70 0 acc ha
   obtain⟨a1,a2⟩:=J2 w h k (y+64) (cE w h y 70 0 acc) b1
   exact⟨a1,by omega⟩
  ·exact⟨ha,by omega⟩
theorem JO {w x:Nat} (hx:x<w) (hw:w≤4096):(if IntKind.wrap .i64 ((w:Int)-(x:Int))<(64:Int) then IntKind.wrap .i64 ((w:Int)-(x:Int)) else (64:Int))=((min (w-x) 64:Nat):Int):=by
 rw[aQ (by omega) (by omega)]
 split<;>omega
theorem SC (x y w' h':Int) (acc:List (Int×Int×Int×Int×Unit)) (ha:acc.length≤100000):nW 200000 (x,y,w',h',acc)=some (acc++[(x,y,w',h',())]):=by
 simp only[nW,ae]
 rw[aK (by simp;omega)]
theorem Fw (w h y:Nat) (hw:w≤4096) (hh:h≤4096) (hy:y<h):∀(j x k:Nat) (acc:List bK),w≤x+64*j→x<w+64→j<k→acc.length+j≤90000 →
  eg 200000 k ((y:Int),(x:Int),(h:Int),64,(w:Int),acc.map rc)=some ((y:Int),(h:Int),64,(w:Int),(cE w h y j x acc).map rc)
 | 0,x,k+1,acc,hx,hx2,hk,ha=>by
  show fK 200000 (eg 200000 k) _=_
  simp only[fK,ae]
  rw[aL (by omega)]
  rfl
 | j+1,x,k+1,acc,hx,hx2,hk,ha=>by
  show fK 200000 (eg 200000 k) _=_
  unfold cE
  by_cases h1:x<w
  ·have ih:=Fw w h y hw hh hy j (x+64) k (acc++[(x,y,min (w-x) 64,min (h-y) 64)]) (by omega) (by omega) (by omega) (by rw[List.length_append];simp;omega)
   generalize eg 200000 k=G at *
   simp only[fK,ae]
   rw[if_pos h1,aK (by omega),JO h1 hw,JO hy hh,SC _ _ _ _ _ (by rw[List.length_map];omega),Option.bind_some,aQ (by omega) (by omega),show(x:Int)+64=((x+64:Nat):Int) by omega]
   rw[show acc.map rc++[((x:Int),(y:Int),((min (w-x) 64:Nat):Int),((min (h-y) 64:Nat):Int),())]=(acc++[(x,y,min (w-x) 64,min (h-y) 64)]).map rc by simp[rc],ih,Option.bind_some]
  ·simp only[fK,ae]
   rw[if_neg h1,aL (by omega)]
theorem Fx (w h:Nat) (hw:w≤4096) (hh:h≤4096):∀(j y k:Nat) (acc:List bK),h≤y+64*j→j<k→acc.length+70*j≤80000 →
  jb 200000 k ((y:Int),(h:Int),64,(w:Int),acc.map rc)=some ((h:Int),64,(w:Int),(gz w h j y acc).map rc)
 | 0,y,k+1,acc,hx,hk,ha=>by
  show nd 200000 (jb 200000 k) _=_
  simp only[nd,ae]
  rw[aL (by omega)]
  rfl
 | j+1,y,k+1,acc,hx,hk,ha=>by
  show nd 200000 (jb 200000 k) _=_
  unfold gz
  by_cases h1:y<h
  ·have hrow:=Fw w h y hw hh h1 70 0 200000 acc (by omega) (by omega) (by omega) (by omega)
   have hlen:(cE w h y 70 0 acc).length≤acc.length+70:=by
    have:∀(k x:Nat) (acc:List bK),(cE w h y k x acc).length≤acc.length+k:=by
     intro k
     induction k with
     | zero=>intro x acc;simp[cE]
     | succ k ih=>intro x acc;unfold cE;split;exact Nat.le_trans (ih _ _) (by rw[List.length_append];simp;omega);omega
    exact this 70 0 acc
   have ih:=Fx w h hw hh j (y+64) k (cE w h y 70 0 acc) (by omega) (by omega) (by omega)
   generalize jb 200000 k=G at *
   simp only[nd,ae]
   rw[if_pos h1,aK (by omega)]
   rw[show(0:Int)=((0:Nat):Int) from rfl,hrow,Option.bind_some]
   simp only
   rw[aQ (by omega) (by omega),show(y:Int)+64=((y+64:Nat):Int) by omega,ih,Option.bind_some]
  ·simp only[nd,ae]
   rw[if_neg h1,aL (by omega)]
def aH (w h:Nat):List bK:=if w<1∨h<1 then [] else gz w h 70 0 []
theorem oT (w h:Nat):(∀r∈aH w h,dj w h r)∧(aH w h).length≤4900:=by
 unfold aH
 split
 ·exact⟨(fun r hr=>nomatch hr),by simp⟩
 ·have:=J2 w h 70 0 [] (fun r hr=>by cases hr)
  exact⟨this.1,by have:=this.2;simp at this;omega⟩
theorem yR (w h:Nat) (hw:w≤4096) (hh:h≤4096):F82 200000 ((w:Int),(h:Int),64)=some ((aH w h).map rc):=by
 have hc:=Fx w h hw hh 70 0 200000 [] (by omega) (by omega) (by simp)
 simp only[F82,Tq,Xu,ae]
 unfold aH
 by_cases h1:1≤w
 ·rw[aK (show(1:Int)≤(w:Int) by omega),Option.bind_some,decide_eq_true (show(w:Int)≤4096 by omega)]
  simp only[Bool.not_true,Bool.false_eq_true,if_false]
  by_cases h2:1≤h
  ·rw[aK (show(1:Int)≤(h:Int) by omega),Option.bind_some,decide_eq_true (show(h:Int)≤4096 by omega)]
   simp only[Bool.not_true,Bool.false_eq_true,if_false]
   rw[aL (by omega),Option.bind_some,if_neg (show ¬(w<1∨h<1) by omega)]
   simp only
   rw[if_neg (show ¬(4096:Int)<64 by decide)]
   simp only[rY,Xp]
   have hc':jb 200000 200000 (0,(h:Int),64,(w:Int),[])=some ((h:Int),64,(w:Int),(gz w h 70 0 []).map rc):=hc
   rw[hc']
   rfl
  ·rw[aL (show ¬(1:Int)≤(h:Int) by omega),Option.bind_some,if_pos (by decide),if_pos (show w<1∨h<1 by omega)]
   rfl
 ·rw[aL (show ¬(1:Int)≤(w:Int) by omega),Option.bind_some,if_pos (by decide),if_pos (show w<1∨h<1 by omega)]
  rfl
theorem Lr (w h y:Nat) (hw:w≤4096) (hh:h≤4096) (hy:y<h):∀(j x k:Nat) (acc:List bK),w≤x+64*j→x<w+64→j<k→acc.length+j≤90000 →
  ia 200000 k ((x:Int),(w:Int),(h:Int),(y:Int),64,acc.map rc)=some ((y:Int),(w:Int),(h:Int),64,(cE w h y j x acc).map rc)
 | 0,x,k+1,acc,hx,hx2,hk,ha=>by
  show im 200000 (ia 200000 k) _=_
  simp only[im,ae]
  rw[aL (by omega)]
  rfl
 | j+1,x,k+1,acc,hx,hx2,hk,ha=>by
  show im 200000 (ia 200000 k) _=_
  unfold cE
  by_cases h1:x<w
  ·have ih:=Lr w h y hw hh hy j (x+64) k (acc++[(x,y,min (w-x) 64,min (h-y) 64)]) (by omega) (by omega) (by omega) (by rw[List.length_append];simp;omega)
   generalize ia 200000 k=G at *
   simp only[im,ae]
   rw[if_pos h1,aK (by omega),JO h1 hw,JO hy hh,aK (by simp;omega),if_neg (show ¬(4096:Int)<64 by decide),aQ (by omega) (by omega),show(x:Int)+64=((x+64:Nat):Int) by omega]
   rw[show acc.map rc++[((x:Int),(y:Int),((min (w-x) 64:Nat):Int),((min (h-y) 64:Nat):Int),())]=(acc++[(x,y,min (w-x) 64,min (h-y) 64)]).map rc by simp[rc],ih,Option.bind_some]
  ·simp only[im,ae]
   rw[if_neg h1,aL (by omega)]
theorem Ls (w h:Nat) (hw:w≤4096) (hh:h≤4096):∀(j y k:Nat) (acc:List bK),h≤y+64*j→j<k→acc.length+70*j≤80000 →
  iY 200000 k ((w:Int),(h:Int),(y:Int),64,acc.map rc)=some ((gz w h j y acc).map rc)
 | 0,y,k+1,acc,hx,hk,ha=>by
  show lM 200000 (iY 200000 k) _=_
  simp only[lM,ae]
  rw[aL (by omega)]
  rfl
 | j+1,y,k+1,acc,hx,hk,ha=>by
  show lM 200000 (iY 200000 k) _=_
  unfold gz
  by_cases h1:y<h
  ·have hrow:=Lr w h y hw hh h1 70 0 200000 acc (by omega) (by omega) (by omega) (by omega)
   have hlen:(cE w h y 70 0 acc).length≤acc.length+70:=by
    have:∀(k x:Nat) (acc:List bK),(cE w h y k x acc).length≤acc.length+k:=by
     intro k
     induction k with
     | zero=>intro x acc;simp[cE]
     | succ k ih=>intro x acc;unfold cE;split;exact Nat.le_trans (ih _ _) (by rw[List.length_append];simp;omega);omega
    exact this 70 0 acc
   have ih:=Ls w h hw hh j (y+64) k (cE w h y 70 0 acc) (by omega) (by omega) (by omega)
   generalize iY 200000 k=G at *
   simp only[lM,ae]
   rw[if_pos h1,aK (by omega)]
   rw[show(0:Int)=((0:Nat):Int) from rfl,hrow,Option.bind_some]
   simp only
   rw[if_neg (show ¬(4096:Int)<64 by decide),aQ (by omega) (by omega),show(y:Int)+64=((y+64:Nat):Int) by omega,ih,Option.bind_some]
  ·simp only[lM,ae]
   rw[if_neg h1,aL (by omega)]
theorem OX (w h:Nat) (hw:w≤4096) (hh:h≤4096):F38 200000 ((w:Int),(h:Int),64)=some ((aH w h).map rc):=by
 have hc:=Ls w h hw hh 70 0 200000 [] (by omega) (by omega) (by simp)
 simp only[F38,ae]
 unfold aH
 by_cases h1:w<1
 ·rw[aK (by omega),if_pos (.inl h1)]
  rfl
 ·rw[aL (by omega)]
  by_cases h2:h<1
  ·rw[aK (by omega),if_pos (.inr h2)]
   rfl
  ·rw[aL (by omega),aL (by omega),aL (by omega),aL (by omega),if_neg (by omega)]
   have hc':iY 200000 200000 ((w:Int),(h:Int),0,64,[])=some ((gz w h 70 0 []).map rc):=hc
   rw[hc',Option.bind_some]
end Go.Proofs.YtfcamlibbfnldaaGreat.Am
set_option maxRecDepth 100000
namespace Go.Proofs.YtfcamlibbfnldaaGreat.Am
open Go.Am
def pos (w:Nat) (r:bK) (i:Nat):Nat:=(r.2.1+i / r.2.2.1)*w+r.1+i % r.2.2.1
def inT (w:Nat) (r:bK) (q:Nat):Bool:=decide (r.1≤q % w)&&(decide (q % w<r.1+r.2.2.1)&&(decide (r.2.1≤q / w)&&decide (q / w<r.2.1+r.2.2.2)))
def De (w:Nat) (r:bK) (q:Nat):Nat:=(q / w-r.2.1)*r.2.2.1+(q % w-r.1)
def d7 (w:Nat) (r:bK) (vals all:List Nat) (i:Nat):List Nat:=(List.range all.length).map fun q=>if inT w r q=true∧De w r q<i then vals.getD (De w r q) 0 else all.getD q 0
theorem d6 (w:Nat) (r:bK) (vals all:List Nat) (i:Nat):(d7 w r vals all i).length=all.length:=by unfold d7;simp
theorem gR {w q:Nat} {r:bK}:inT w r q=true↔r.1≤q % w∧q % w<r.1+r.2.2.1∧r.2.1≤q / w∧q / w<r.2.1+r.2.2.2:=by
 unfold inT
 simp only[Bool.and_eq_true,decide_eq_true_eq]
theorem HE {w q:Nat} {r:bK} (h:inT w r q=true):De w r q<r.2.2.1*r.2.2.2:=by
 obtain⟨h1,h2,h3,h4⟩:=gR.1 h
 unfold De
 have h5:q / w-r.2.1≤r.2.2.2-1:=by omega
 have h6:(q / w-r.2.1)*r.2.2.1≤(r.2.2.2-1)*r.2.2.1:=Nat.mul_le_mul_right _ h5
 have h7:(r.2.2.2-1)*r.2.2.1+r.2.2.1=r.2.2.1*r.2.2.2:=by
  rw[Nat.mul_comm r.2.2.1,Nat.sub_mul,Nat.one_mul]
  have:r.2.2.1≤r.2.2.2*r.2.2.1:=Nat.le_mul_of_pos_left _ (by omega)
  omega
 omega
theorem rK {w h:Nat} {r:bK} (ht:dj w h r) {i:Nat} (hi:i<r.2.2.1*r.2.2.2):pos w r i / w=r.2.1+i / r.2.2.1∧pos w r i % w=r.1+i % r.2.2.1∧pos w r i<w*h:=by
 obtain⟨t1,t2,t3,t4,t5,t6⟩:=ht
 have hm:i % r.2.2.1<r.2.2.1:=Nat.mod_lt _ (by omega)
 have hd:i / r.2.2.1<r.2.2.2:=(Nat.div_lt_iff_lt_mul (by omega)).2 (by rw[Nat.mul_comm];exact hi)
 have e:pos w r i=w*(r.2.1+i / r.2.2.1)+(r.1+i % r.2.2.1):=by unfold pos;rw[Nat.mul_comm w];omega
 refine⟨?_,?_,?_⟩
 ·rw[e,Nat.mul_add_div (by omega),Nat.div_eq_of_lt (show r.1+i % r.2.2.1<w by omega),Nat.add_zero]
 ·rw[e,Nat.mul_add_mod,Nat.mod_eq_of_lt (show r.1+i % r.2.2.1<w by omega)]
 ·rw[e]
  have:w*(r.2.1+i / r.2.2.1)+w≤w*h:=by
   rw[←Nat.mul_succ]
   exact Nat.mul_le_mul_left _ (by omega)
  omega
theorem JF {w h:Nat} {r:bK} (ht:dj w h r) {i q:Nat} (hi:i<r.2.2.1*r.2.2.2):(inT w r q=true∧De w r q=i)↔q=pos w r i:=by
 obtain⟨d1,d2,_⟩:=rK ht hi
 obtain⟨t1,t2,t3,t4,t5,t6⟩:=ht
 have hm:i % r.2.2.1<r.2.2.1:=Nat.mod_lt _ (by omega)
 have hd:i / r.2.2.1<r.2.2.2:=(Nat.div_lt_iff_lt_mul (by omega)).2 (by rw[Nat.mul_comm];exact hi)
 constructor
 ·rintro⟨h1,h2⟩
  obtain⟨a1,a2,a3,a4⟩:=gR.1 h1
  unfold De at h2
  have e1:i / r.2.2.1=q / w-r.2.1:=by
   rw[←h2,Nat.mul_comm,Nat.mul_add_div (by omega),Nat.div_eq_of_lt (show q % w-r.1<r.2.2.1 by omega),Nat.add_zero]
  have e2:i % r.2.2.1=q % w-r.1:=by
   rw[←h2,Nat.mul_comm,Nat.mul_add_mod,Nat.mod_eq_of_lt (show q % w-r.1<r.2.2.1 by omega)]
  unfold pos
  rw[e1,e2,show r.2.1+(q / w-r.2.1)=q / w by omega]
  have:=Nat.div_add_mod q w
  rw[Nat.mul_comm] at this
  omega
 ·intro hq
  subst hq
  refine⟨gR.2 (by rw[d1,d2];generalize i / r.2.2.1=A at *;generalize i % r.2.2.1=C at *;omega),?_⟩
  unfold De
  rw[d1,d2,Nat.add_sub_cancel_left,Nat.add_sub_cancel_left]
  have:=Nat.div_add_mod i r.2.2.1
  rw[Nat.mul_comm] at this
  exact this
theorem Ox (w:Nat) (r:bK) (vals all:List Nat):d7 w r vals all 0=all:=by
 unfold d7
 apply List.ext_getElem
 ·simp
 ·intro n h1 h2
  simp[List.getElem?_eq_getElem h2]
theorem Oy {w h:Nat} {r:bK} (ht:dj w h r) (vals all:List Nat) (c:Nat→Nat) (hall:all.length=w*h) {i:Nat} (hi:i<r.2.2.1*r.2.2.2) :
  (nl ((d7 w r vals all i).map c)).set (pos w r i) ((c (vals.getD i 0):Nat):Int)=nl ((d7 w r vals all (i+1)).map c):=by
 obtain⟨_,_,d3⟩:=rK ht hi
 apply List.ext_getElem
 ·simp[nl,d7]
 ·intro q h1 h2
  have hq:q<all.length:=by simp[nl,d7] at h2;exact h2
  rw[List.getElem_set]
  simp only[nl,d7,List.getElem_map,List.getElem_range]
  by_cases hp:pos w r i=q
  ·rw[if_pos hp]
   obtain⟨a1,a2⟩:=(JF ht hi).2 hp.symm
   rw[if_pos ⟨a1,by omega⟩,a2]
  ·rw[if_neg hp]
   by_cases hin:inT w r q=true
   ·have hne:De w r q≠i:=fun e=>hp ((JF ht hi).1 ⟨hin,e⟩).symm
    by_cases hlt:De w r q<i
    ·rw[if_pos ⟨hin,hlt⟩,if_pos ⟨hin,by omega⟩]
    ·rw[if_neg (fun x=>hlt x.2),if_neg (fun x=>by have:=x.2;omega)]
   ·rw[if_neg (fun x=>hin x.1),if_neg (fun x=>hin x.1)]
theorem JR (w:Nat) (r:bK) (vals all:List Nat) (i:Nat) (hv:∀v∈vals,v<4294967296) (ha:∀v∈all,v<4294967296):∀v∈d7 w r vals all i,v<4294967296:=by
 have hg:∀(L:List Nat) (k:Nat),(∀v∈L,v<4294967296)→L.getD k 0<4294967296:=by
  intro L k hL
  by_cases hk:k<L.length
  ·rw[List.getD,List.getElem?_eq_getElem hk];exact hL _ (List.getElem_mem hk)
  ·rw[List.getD,List.getElem?_eq_none (by omega)];decide
 intro v hv2
 unfold d7 at hv2
 obtain⟨q,_,rfl⟩:=List.mem_map.1 hv2
 split
 ·exact hg _ _ hv
 ·exact hg _ _ ha
section
variable (b d:Int) (g t:Bool) (m0 m1 m2 s0 s1 s2:Int) (sz:Nat) (l:List UInt8)
theorem ac4 {w h:Nat} {r:bK} (ht:dj w h r) (hw:w≤4096) (hwh:w*h≤5000) {i:Nat} (hi:i<r.2.2.1*r.2.2.2) (hh:h≤4096) :
  IntKind.wrap .i64 (IntKind.wrap .i64 (IntKind.wrap .i64 (IntKind.wrap .i64 ((r.2.1:Int)+IntKind.wrap .i64 (Int.tdiv (i:Int) (r.2.2.1:Int)))*(w:Int))+(r.1:Int))+Int.tmod (i:Int) (r.2.2.1:Int))=((pos w r i:Nat):Int):=by
 obtain⟨_,_,d3⟩:=rK ht hi
 obtain⟨t1,t2,t3,t4,t5,t6⟩:=ht
 have hd:i / r.2.2.1<r.2.2.2:=(Nat.div_lt_iff_lt_mul (by omega)).2 (by rw[Nat.mul_comm];exact hi)
 have hm:i % r.2.2.1<r.2.2.1:=Nat.mod_lt _ (by omega)
 unfold pos at d3 ⊢
 rw[show Int.tdiv (i:Int) (r.2.2.1:Int)=((i / r.2.2.1:Nat):Int) from rfl,show Int.tmod (i:Int) (r.2.2.1:Int)=((i % r.2.2.1:Nat):Int) from rfl]
 generalize i / r.2.2.1=A at *
 generalize i % r.2.2.1=C at *
 rw[aQ (n:=(A:Int)) (by omega) (by omega),aQ (n:=(r.2.1:Int)+(A:Int)) (by omega) (by omega),show((r.2.1:Int)+(A:Int))*(w:Int)=(((r.2.1+A)*w:Nat):Int) by simp]
 generalize (r.2.1+A)*w=Q at *
 rw[aQ (n:=(Q:Int)) (by omega) (by omega),aQ (n:=(Q:Int)+(r.1:Int)) (by omega) (by omega),aQ (by omega) (by omega)]
 omega
theorem Lu (hv:jm b d t m0 m1 m2 s0 s1 s2=true) (w h:Nat) (r:bK) (ht:dj w h r) (hw:w≤4096) (hh:h≤4096) (hwh:w*h≤5000) (vals all:List Nat) (hall:all.length=w*h) (hvl:vals.length=r.2.2.1*r.2.2.2) (hv32:∀v∈vals,v<4294967296) (x2 x3:Int) (tl:List (Int×Int×Int×Int×Unit)) (p:Nat) (e:Int):∀(j i k:Nat),i+j=vals.length→j<k →
  bD 200000 k ((i:Int),((vals.length:Nat):Int),x2,x3,(w:Int),b,d,g,t,m0,m1,m2,s0,s1,s2,(sz:Int),tl,nl vals,nl ((d7 w r vals all i).map (dz m0 m1 m2 s0 s1 s2)),(r.1:Int),(r.2.1:Int),(r.2.2.1:Int),(r.2.2.2:Int),b,d,g,t,m0,m1,m2,s0,s1,s2,B l,(p:Int),e)
   = some (x3,(w:Int),x2,b,d,g,t,m0,m1,m2,s0,s1,s2,nl ((d7 w r vals all (r.2.2.1*r.2.2.2)).map (dz m0 m1 m2 s0 s1 s2)),tl,b,d,g,t,m0,m1,m2,s0,s1,s2,(sz:Int),B l,(p:Int),e)
 | 0,i,k+1,hi,hk=>by
  show dR 200000 (bD 200000 k) _=_
  simp only[dR,ae]
  rw[aL (by omega),show i=r.2.2.1*r.2.2.2 by omega]
 | j+1,i,k+1,hi,hk=>by
  have hi2:i<r.2.2.1*r.2.2.2:=by omega
  have ih:=Lu hv w h r ht hw hh hwh vals all hall hvl hv32 x2 x3 tl p e j (i+1) k (by omega) (by omega)
  obtain⟨_,_,d3⟩:=rK ht hi2
  have hvi:vals.getD i 0<4294967296:=by rw[List.getD,List.getElem?_eq_getElem (by omega)];exact hv32 _ (List.getElem_mem _)
  have hW:¬((r.2.2.1:Int)=0):=by have:=ht.1;omega
  have hi5:i≤4096:=by have:=Nat.mul_le_mul ht.2.1 ht.2.2.2.1;omega
  show dR 200000 (bD 200000 k) _=_
  generalize bD 200000 k=G at *
  simp only[dR,ae,ac4 ht hw hwh hi2 hh]
  rw[aK (by omega),if_pos (am (by rw[aj];omega)),Int.toNat_natCast,cW (by omega),Option.bind_some,aL hW,aL hW,Iz b d g t m0 m1 m2 s0 s1 s2 hv _ hvi,Option.bind_some,
   if_pos (am (by rw[aj,List.length_map,d6];omega)),Int.toNat_natCast,cW (by rw[List.length_map,d6];omega),Option.bind_some,Oy ht vals all (dz m0 m1 m2 s0 s1 s2) hall hi2,aQ (by omega) (by omega),show(i:Int)+1=((i+1:Nat):Int) by omega,ih,Option.bind_some]
def rz (w:Nat) (r:bK) (vals all:List Nat) (q:Nat):Nat:=if inT w r q=true then vals.getD (De w r q) 0 else all.getD q 0
theorem Oz {w:Nat} {r:bK} {vals all:List Nat}:d7 w r vals all (r.2.2.1*r.2.2.2)=(List.range all.length).map (rz w r vals all):=by
 unfold d7
 apply List.map_congr_left
 intro q _
 unfold rz
 by_cases h:inT w r q=true
 ·rw[if_pos ⟨h,HE h⟩,if_pos h]
 ·rw[if_neg (fun x=>h x.1),if_neg h]
theorem E9 (w h:Nat) (hw1:1≤w) (r:bK) (ht:dj w h r) (hw:w≤4096) (hh:h≤4096) (hwh:w*h≤5000) (vals all:List Nat) (hall:all.length=w*h) (hvl:vals.length=r.2.2.1*r.2.2.2):∀(j q k:Nat),q+j=all.length→j<k →
  mT 200000 k ((q:Int),(w:Int),nl all,nl vals,nl ((List.range q).map (rz w r vals all)),(r.1:Int),(r.2.1:Int),(r.2.2.1:Int),(r.2.2.2:Int))=some (nl ((List.range all.length).map (rz w r vals all)))
 | 0,q,k+1,hq,hk=>by
  show wt 200000 (mT 200000 k) _=_
  simp only[wt,ae]
  rw[aL (by rw[aj];omega),show q=all.length by omega]
 | j+1,q,k+1,hq,hk=>by
  have ih:=E9 w h hw1 r ht hw hh hwh vals all hall hvl j (q+1) k (by omega) (by omega)
  have hW:¬((w:Int)=0):=by omega
  have hm:q % w<w:=Nat.mod_lt _ (by omega)
  have hd:q / w≤q:=Nat.div_le_self _ _
  obtain⟨t1,t2,t3,t4,t5,t6⟩:=ht
  have hin:ap4 200000 ((r.1:Int),(r.2.1:Int),(r.2.2.1:Int),(r.2.2.2:Int),Int.tmod (q:Int) (w:Int),IntKind.wrap .i64 (Int.tdiv (q:Int) (w:Int)))=some (inT w r q):=by
   rw[show Int.tmod (q:Int) (w:Int)=((q % w:Nat):Int) from rfl,show Int.tdiv (q:Int) (w:Int)=((q / w:Nat):Int) from rfl]
   simp only[ap4,ae]
   unfold inT
   generalize q % w=a at *
   generalize q / w=c at *
   rw[aQ (n:=(c:Int)) (by omega) (by omega),aQ (n:=(r.1:Int)+(r.2.2.1:Int)) (by omega) (by omega),aQ (n:=(r.2.1:Int)+(r.2.2.2:Int)) (by omega) (by omega)]
   by_cases c1:r.1≤a
   ·rw[aK (show(a:Int)≥(r.1:Int) by omega),decide_eq_true c1]
    by_cases c2:a<r.1+r.2.2.1
    ·rw[aK (show(a:Int)<(r.1:Int)+(r.2.2.1:Int) by omega),decide_eq_true c2]
     by_cases c3:r.2.1≤c
     ·rw[aK (show(c:Int)≥(r.2.1:Int) by omega),decide_eq_true c3]
      by_cases c4:c<r.2.1+r.2.2.2
      ·rw[decide_eq_true c4,decide_eq_true (show(c:Int)<(r.2.1:Int)+(r.2.2.2:Int) by omega)];rfl
      ·rw[decide_eq_false c4,decide_eq_false (show ¬(c:Int)<(r.2.1:Int)+(r.2.2.2:Int) by omega)];rfl
     ·rw[aL (show ¬(c:Int)≥(r.2.1:Int) by omega),decide_eq_false c3];rfl
    ·rw[aL (show ¬(a:Int)<(r.1:Int)+(r.2.2.1:Int) by omega),decide_eq_false c2];rfl
   ·rw[aL (show ¬(a:Int)≥(r.1:Int) by omega),decide_eq_false c1];rfl
  have hlen:(nl ((List.range q).map (rz w r vals all))).length=q:=by rw[aj];simp
  have happ:nl ((List.range q).map (rz w r vals all))++[((rz w r vals all q:Nat):Int)]=nl ((List.range (q+1)).map (rz w r vals all)):=by
   rw[gv,dI,List.range_succ,List.map_append];rfl
  show wt 200000 (mT 200000 k) _=_
  generalize mT 200000 k=G at *
  simp only[wt,ae]
  rw[aK (by rw[aj];omega),aL hW,aL hW,if_pos (am (by rw[aj];omega)),Int.toNat_natCast,cW (by omega),Option.bind_some,hin,Option.bind_some]
  rw[aQ (n:=(q:Int)+1) (by omega) (by omega),show(q:Int)+1=((q+1:Nat):Int) by omega]
  cases hi:inT w r q with
  | true =>
   obtain⟨a1,a2,a3,a4⟩:=gR.1 hi
   have hid:=HE hi
   have ei:IntKind.wrap .i64 (IntKind.wrap .i64 (IntKind.wrap .i64 (IntKind.wrap .i64 (IntKind.wrap .i64 (Int.tdiv (q:Int) (w:Int))-(r.2.1:Int))*(r.2.2.1:Int))+Int.tmod (q:Int) (w:Int))-(r.1:Int))=((De w r q:Nat):Int):=by
    have hle:(q / w-r.2.1)*r.2.2.1≤4096*64:=Nat.mul_le_mul (by omega) t2
    rw[show Int.tmod (q:Int) (w:Int)=((q % w:Nat):Int) from rfl,show Int.tdiv (q:Int) (w:Int)=((q / w:Nat):Int) from rfl]
    unfold De
    generalize q % w=a at *
    generalize q / w=c at *
    rw[aQ (n:=(c:Int)) (by omega) (by omega),aQ (n:=(c:Int)-(r.2.1:Int)) (by omega) (by omega),
     show(c:Int)-(r.2.1:Int)=((c-r.2.1:Nat):Int) by omega,show((c-r.2.1:Nat):Int)*(r.2.2.1:Int)=(((c-r.2.1)*r.2.2.1:Nat):Int) by simp]
    generalize (c-r.2.1)*r.2.2.1=Q at *
    rw[aQ (n:=(Q:Int)) (by omega) (by omega),aQ (n:=(Q:Int)+(a:Int)) (by omega) (by omega),aQ (by omega) (by omega)]
    omega
   have ep:rz w r vals all q=vals.getD (De w r q) 0:=by unfold rz;rw[if_pos hi]
   rw[if_pos rfl,ei,if_pos (am (by rw[aj];omega)),Int.toNat_natCast,cW (by omega),Option.bind_some,aK (by rw[hlen];simp;omega),←ep,happ,ih,Option.bind_some]
  | false =>
   have ep:rz w r vals all q=all.getD q 0:=by unfold rz;rw[if_neg (by rw[hi];decide)]
   rw[if_neg (by decide),aK (by rw[hlen];simp;omega),←ep,happ,ih,Option.bind_some]
theorem WS (w h:Nat) (hw1:1≤w) (r:bK) (ht:dj w h r) (hw:w≤4096) (hh:h≤4096) (hwh:w*h≤5000) (vals all:List Nat) (hall:all.length=w*h) (hvl:vals.length=r.2.2.1*r.2.2.2) :
  F89 200000 ((w:Int),nl all,(r.1:Int),(r.2.1:Int),(r.2.2.1:Int),(r.2.2.2:Int),nl vals)=some (nl (d7 w r vals all (r.2.2.1*r.2.2.2))):=by
 have h:=E9 w h hw1 r ht hw hh hwh vals all hall hvl all.length 0 200000 (by omega) (by omega)
 have h':mT 200000 200000 (0,(w:Int),nl all,nl vals,[],(r.1:Int),(r.2.1:Int),(r.2.2.1:Int),(r.2.2.2:Int))=_:=h
 simp only[F89]
 rw[h',Option.bind_some,Oz]
theorem E7 (hv:jm b d t m0 m1 m2 s0 s1 s2=true) (all:List Nat) (hall:all.length≤10000) (h32:∀v∈all,v<4294967296):∀(j i k:Nat),i+j=all.length→j<k →
  iX 200000 k ((i:Int),nl all,nl ((all.take i).map (dz m0 m1 m2 s0 s1 s2)),b,d,g,t,m0,m1,m2,s0,s1,s2)=some (nl (all.map (dz m0 m1 m2 s0 s1 s2)))
 | 0,i,k+1,hi,hk=>by
  show qF 200000 (iX 200000 k) _=_
  simp only[qF,ae]
  rw[aL (by rw[aj];omega),List.take_of_length_le (by omega)]
 | j+1,i,k+1,hi,hk=>by
  have ih:=E7 hv all hall h32 j (i+1) k (by omega) (by omega)
  have hvi:all.getD i 0<4294967296:=by rw[List.getD,List.getElem?_eq_getElem (by omega)];exact h32 _ (List.getElem_mem _)
  have happ:nl ((all.take i).map (dz m0 m1 m2 s0 s1 s2))++[((dz m0 m1 m2 s0 s1 s2 (all.getD i 0):Nat):Int)]=nl ((all.take (i+1)).map (dz m0 m1 m2 s0 s1 s2)):=by
   rw[gv,dI,List.take_add_one,List.map_append,List.getD,List.getElem?_eq_getElem (by omega)];rfl
  show qF 200000 (iX 200000 k) _=_
  generalize iX 200000 k=G at *
  simp only[qF,ae]
  rw[aK (by rw[aj];omega),if_pos (am (by rw[aj];omega)),Int.toNat_natCast,cW (by omega),Option.bind_some,FB b d g t m0 m1 m2 s0 s1 s2 hv _ hvi,Option.bind_some,aK (by rw[aj];simp;omega),happ,aQ (by omega) (by omega),show(i:Int)+1=((i+1:Nat):Int) by omega,ih,Option.bind_some]
theorem E8 (hv:jm b d t m0 m1 m2 s0 s1 s2=true) (all:List Nat) (hall:all.length≤10000) (h32:∀v∈all,v<4294967296) :
  F90 200000 (b,d,g,t,m0,m1,m2,s0,s1,s2,nl all)=some (nl (all.map (dz m0 m1 m2 s0 s1 s2))):=by
 have h:=E7 b d g t m0 m1 m2 s0 s1 s2 hv all hall h32 all.length 0 200000 (by omega) (by omega)
 have h':iX 200000 200000 (0,nl all,[],b,d,g,t,m0,m1,m2,s0,s1,s2)=_:=h
 simp only[F90]
 rw[h',Option.bind_some]
end
end Go.Proofs.YtfcamlibbfnldaaGreat.Am
set_option maxRecDepth 100000
namespace Go.Proofs.YtfcamlibbfnldaaGreat.Am
open Go.Am
theorem SU (L:List Int) (hL:L.length≤100000):SX 200000 (L,L)=some true:=by
 have loop:∀(j i k:Nat),i+j=L.length→j<k→ku 200000 k (L,L,(i:Int))=some (.inr ()):=by
  intro j
  induction j with
  | zero =>
   intro i k hi hk
   obtain⟨k',rfl⟩:∃k',k=k'+1:=⟨k-1,by omega⟩
   show qG 200000 (ku 200000 k') _=_
   simp only[qG,ae]
   rw[aL (by omega)]
  | succ j ih =>
   intro i k hi hk
   obtain⟨k',rfl⟩:∃k',k=k'+1:=⟨k-1,by omega⟩
   have ih:=ih (i+1) k' (by omega) (by omega)
   show qG 200000 (ku 200000 k') _=_
   generalize ku 200000 k'=G at *
   simp only[qG,ae]
   rw[aK (by omega),if_pos (am (by omega)),Int.toNat_natCast,UW (by omega),Option.bind_some,if_pos (am (by omega)),Option.bind_some]
   simp only[bne_self_eq_false,Bool.false_eq_true,if_false]
   rw[aQ (by omega) (by omega),show(i:Int)+1=((i+1:Nat):Int) by omega,ih,Option.bind_some]
 have h:=loop L.length 0 200000 (by omega) (by omega)
 simp only[SX,ae]
 simp only[bne_self_eq_false,Bool.false_eq_true,if_false]
 rw[show(0:Int)=((0:Nat):Int) from rfl,h,Option.bind_some]
theorem sI (T:List bK) (pre:List bK) (r:bK) (rest:List bK) (hT:T=pre++r::rest):(T.map rc)[pre.length]?=some (rc r):=by rw[hT];simp
section
variable (b d:Int) (g t:Bool) (m0 m1 m2 s0 s1 s2:Int) (sz sh:Nat) (l:List UInt8)
theorem E6 (n:Int):F93 200000 n=some (decide (0≤n)&&decide (n≤4096)):=by
 simp only[F93,ae]
 cases decide (0≤n)<;>rfl
def fits (w h:Int):Bool:=jm b d t m0 m1 m2 s0 s1 s2&&((decide (0≤w)&&decide (w≤4096))&&(decide (0≤h)&&decide (h≤4096)))
theorem Fh (w h:Int):X5 200000 (b,d,g,t,m0,m1,m2,s0,s1,s2,w,h)=some (fits b d t m0 m1 m2 s0 s1 s2 w h):=by
 simp only[X5,ae]
 rw[dN,Option.bind_some,E6,E6]
 unfold fits
 cases jm b d t m0 m1 m2 s0 s1 s2<;>cases (decide (0≤w)&&decide (w≤4096))<;>rfl
theorem SY (w h:Int):F27 200000 (b,d,g,t,m0,m1,m2,s0,s1,s2,w,h)=some (fits b d t m0 m1 m2 s0 s1 s2 w h):=by
 simp only[F27,ae]
 rw[OV,Option.bind_some]
 unfold fits
 rw[show decide (w≥0)=decide (0≤w) from rfl,show decide (h≥0)=decide (0≤h) from rfl]
 cases jm b d t m0 m1 m2 s0 s1 s2<;>cases decide (0≤w)<;>cases decide (w≤4096)<;>cases decide (0≤h)<;>rfl
def ng (w:Nat):List bK→Nat→Int→List Nat→Option (Nat×Int×List Nat)
 | [],p,e,all=>some (p,e,all)
 | r::rest,p,e,all=>match fb g sz sh l r.2.2.1 r.2.2.2 p e with
  | none=>none
  | some (p',e',vs)=>if e'≠0 then none else ng w rest p' e' (d7 w r vs all (r.2.2.1*r.2.2.2))
variable (hv:jm b d t m0 m1 m2 s0 s1 s2=true) (h37:Fg 200000 (b,d,g,t,m0,m1,m2,s0,s1,s2)=some ((sz:Int),(sh:Int))) (h87:TQ 200000 (b,d,g,t,m0,m1,m2,s0,s1,s2)=some ((sz:Int),(sh:Int))) (h1:1≤sz) (h4:sz≤4) (hsh:sh=0∨sh=8∧sz=3) (hl:l.length≤100000)
include hv h37 h87 h1 h4 hsh hl
theorem Fl (w h:Nat) (hw:w≤4096) (hh:h≤4096) (hwh:w*h≤5000) (T:List bK) (hT:∀r∈T,dj w h r) (hTl:T.length≤5000):∀(suf pre:List bK) (p k:Nat) (e:Int) (all:List Nat),T=pre++suf→suf.length<k→p≤l.length→iH e→all.length=w*h→(∀v∈all,v<4294967296) →
  match ng g sz sh l w suf p e all with
  | some (p',e',all')=>cz 200000 k ((w:Int),((pre.length:Nat):Int),((T.length:Nat):Int),b,d,g,t,m0,m1,m2,s0,s1,s2,nl (all.map (dz m0 m1 m2 s0 s1 s2)),T.map rc,b,d,g,t,m0,m1,m2,s0,s1,s2,(sz:Int),B l,(p:Int),e)=some (.inr (b,d,g,t,m0,m1,m2,s0,s1,s2,(sz:Int),nl (all'.map (dz m0 m1 m2 s0 s1 s2)),B l,(p':Int),e'))∧p'≤l.length∧iH e'∧all'.length=w*h∧∀v∈all',v<4294967296
  | none=>cz 200000 k ((w:Int),((pre.length:Nat):Int),((T.length:Nat):Int),b,d,g,t,m0,m1,m2,s0,s1,s2,nl (all.map (dz m0 m1 m2 s0 s1 s2)),T.map rc,b,d,g,t,m0,m1,m2,s0,s1,s2,(sz:Int),B l,(p:Int),e)=some (.inl (180,[]))
 | [],pre,p,k+1,e,all,hs,hk,hp,he,ha,ha32=>by
  have:T.length=pre.length:=by rw[hs];simp
  unfold ng
  refine⟨?_,hp,he,ha,ha32⟩
  show ji 200000 (cz 200000 k) _=_
  simp only[ji,ae]
  rw[aL (by omega)]
 | r::rest,pre,p,k+1,e,all,hs,hk,hp,he,ha,ha32=>by
  have hn:T.length=pre.length+rest.length+1:=by rw[hs];simp;omega
  have ht:=hT r (by rw[hs];simp)
  have htile:=SB b d g t m0 m1 m2 s0 s1 s2 sz sh l hv h37 h87 h1 h4 hsh hl r.2.2.1 r.2.2.2 p e ht.2.1 ht.2.2.2.1 hp he
  have hF:∀R,cz 200000 (k+1) ((w:Int),((pre.length:Nat):Int),((T.length:Nat):Int),b,d,g,t,m0,m1,m2,s0,s1,s2,nl (all.map (dz m0 m1 m2 s0 s1 s2)),T.map rc,b,d,g,t,m0,m1,m2,s0,s1,s2,(sz:Int),B l,(p:Int),e)=R↔ji 200000 (cz 200000 k) ((w:Int),((pre.length:Nat):Int),((T.length:Nat):Int),b,d,g,t,m0,m1,m2,s0,s1,s2,nl (all.map (dz m0 m1 m2 s0 s1 s2)),T.map rc,b,d,g,t,m0,m1,m2,s0,s1,s2,(sz:Int),B l,(p:Int),e)=R:=fun _=>Iff.rfl
  unfold ng
  cases hr:fb g sz sh l r.2.2.1 r.2.2.2 p e with
  | none =>
   rw[hr] at htile
   obtain⟨q,e',hx⟩:=htile
   simp only
   rw[hF]
   simp only[ji,ae]
   rw[aK (by omega),if_pos (am (by rw[List.length_map];omega)),Int.toNat_natCast,sI T pre r rest hs,Option.bind_some]
   simp only[rc]
   rw[hx]
   rfl
  | some y =>
   obtain⟨p',e',vs⟩:=y
   rw[hr] at htile
   simp only at htile ⊢
   obtain⟨a1,a2,a3,a4⟩:=Dl g sz sh l h4 hsh hl r.2.2.1 r.2.2.2 p e hp he p' e' vs hr
   have hB:cz 200000 (k+1) ((w:Int),((pre.length:Nat):Int),((T.length:Nat):Int),b,d,g,t,m0,m1,m2,s0,s1,s2,nl (all.map (dz m0 m1 m2 s0 s1 s2)),T.map rc,b,d,g,t,m0,m1,m2,s0,s1,s2,(sz:Int),B l,(p:Int),e) =
     if (e' != 0)=true then some (.inl (180,[])) else
      (bD 200000 200000 (0,(((nl vs).length:Nat):Int),((T.length:Nat):Int),((pre.length:Nat):Int),(w:Int),b,d,g,t,m0,m1,m2,s0,s1,s2,(sz:Int),T.map rc,nl vs,nl (all.map (dz m0 m1 m2 s0 s1 s2)),(r.1:Int),(r.2.1:Int),(r.2.2.1:Int),(r.2.2.2:Int),b,d,g,t,m0,m1,m2,s0,s1,s2,B l,(p':Int),e')).bind fun(z0,z1,z2,z3,z4,z5,z6,z7,z8,z9,z10,z11,z12,z13,z14,z15,z16,z17,z18,z19,z20,z21,z22,z23,z24,z25,z26,z27,z28) =>
       (cz 200000 k (z1,IntKind.wrap .i64 (z0+1),z2,z3,z4,z5,z6,z7,z8,z9,z10,z11,z12,z13,z14,z15,z16,z17,z18,z19,z20,z21,z22,z23,z24,z25,z26,z27,z28)).bind fun r=>match r with|.inl y=>some (.inl y)|.inr y=>some (.inr y):=by
    rw[hF]
    generalize cz 200000 k=G
    simp only[ji,ae]
    rw[aK (by omega),if_pos (am (by rw[List.length_map];omega)),Int.toNat_natCast,sI T pre r rest hs,Option.bind_some]
    simp only[rc]
    rw[htile]
    rfl
   rw[hB]
   by_cases he0:e'=0
   ·rw[if_neg (by simpa using he0),if_neg (by simpa using he0)]
    have hlay:=Lu b d g t m0 m1 m2 s0 s1 s2 sz l hv w h r ht hw hh hwh vs all ha a3 a4 ((T.length:Nat):Int) ((pre.length:Nat):Int) (T.map rc) p' e' vs.length 0 200000 (by omega) (by have:=Nat.mul_le_mul ht.2.1 ht.2.2.2.1;omega)
    rw[Ox] at hlay
    rw[aj]
    have hlay':bD 200000 200000 (0,((vs.length:Nat):Int),((T.length:Nat):Int),((pre.length:Nat):Int),(w:Int),b,d,g,t,m0,m1,m2,s0,s1,s2,(sz:Int),T.map rc,nl vs,nl (all.map (dz m0 m1 m2 s0 s1 s2)),(r.1:Int),(r.2.1:Int),(r.2.2.1:Int),(r.2.2.2:Int),b,d,g,t,m0,m1,m2,s0,s1,s2,B l,(p':Int),e')=_:=hlay
    rw[hlay',Option.bind_some]
    simp only
    have ih:=Fl w h hw hh hwh T hT hTl rest (pre++[r]) p' k e' (d7 w r vs all (r.2.2.1*r.2.2.2)) (by rw[hs];simp) (by simp at hk;omega) a1 a2 (by rw[d6];exact ha) (JR w r vs all _ a4 ha32)
    rw[aQ (by omega) (by omega),show((pre.length:Nat):Int)+1=(((pre++[r]).length:Nat):Int) by simp]
    cases hu:ng g sz sh l w rest p' e' (d7 w r vs all (r.2.2.1*r.2.2.2)) with
    | none =>
     rw[hu] at ih
     simp only at ih ⊢
     rw[ih];rfl
    | some y =>
     rw[hu] at ih
     simp only at ih ⊢
     refine⟨?_,ih.2⟩
     rw[ih.1];rfl
   ·rw[if_pos he0,if_pos (by simpa using he0)]
theorem Fj (w h:Nat) (T:List bK) (hw1:T≠[]→1≤w) (hw:w≤4096) (hh:h≤4096) (hwh:w*h≤5000) (hT:∀r∈T,dj w h r) (hTl:T.length≤5000):∀(suf pre:List bK) (p k:Nat) (e:Int) (all:List Nat),T=pre++suf→suf.length<k→p≤l.length→iH e→all.length=w*h→(∀v∈all,v<4294967296) →
  match ng g sz sh l w suf p e all with
  | some (p',e',all')=>co 200000 k (B l,(w:Int),((pre.length:Nat):Int),b,d,g,t,m0,m1,m2,s0,s1,s2,b,d,g,t,m0,m1,m2,s0,s1,s2,(sz:Int),T.map rc,nl all,B l,(p:Int),e)=some (.inr (B l,b,d,g,t,m0,m1,m2,s0,s1,s2,(sz:Int),nl all',b,d,g,t,m0,m1,m2,s0,s1,s2,B l,(p':Int),e'))
  | none=>co 200000 k (B l,(w:Int),((pre.length:Nat):Int),b,d,g,t,m0,m1,m2,s0,s1,s2,b,d,g,t,m0,m1,m2,s0,s1,s2,(sz:Int),T.map rc,nl all,B l,(p:Int),e)=some (.inl (180,[]))
 | [],pre,p,k+1,e,all,hs,hk,hp,he,ha,ha32=>by
  have:T.length=pre.length:=by rw[hs];simp
  unfold ng
  show iq 200000 (co 200000 k) _=_
  simp only[iq,ae]
  rw[aL (by rw[List.length_map];omega)]
 | r::rest,pre,p,k+1,e,all,hs,hk,hp,he,ha,ha32=>by
  have hn:T.length=pre.length+rest.length+1:=by rw[hs];simp;omega
  have ht:=hT r (by rw[hs];simp)
  have hw0:=hw1 (by rw[hs];simp)
  have htile:=SA b d g t m0 m1 m2 s0 s1 s2 sz sh l hv h37 h87 h1 h4 hsh hl r.2.2.1 r.2.2.2 p e ht.2.1 ht.2.2.2.1 hp he
  have hF:∀R,co 200000 (k+1) (B l,(w:Int),((pre.length:Nat):Int),b,d,g,t,m0,m1,m2,s0,s1,s2,b,d,g,t,m0,m1,m2,s0,s1,s2,(sz:Int),T.map rc,nl all,B l,(p:Int),e)=R↔iq 200000 (co 200000 k) (B l,(w:Int),((pre.length:Nat):Int),b,d,g,t,m0,m1,m2,s0,s1,s2,b,d,g,t,m0,m1,m2,s0,s1,s2,(sz:Int),T.map rc,nl all,B l,(p:Int),e)=R:=fun _=>Iff.rfl
  unfold ng
  cases hr:fb g sz sh l r.2.2.1 r.2.2.2 p e with
  | none =>
   rw[hr] at htile
   obtain⟨q,e',hx⟩:=htile
   simp only
   rw[hF]
   simp only[iq,ae]
   rw[aK (by rw[List.length_map];omega),if_pos (am (by rw[List.length_map];omega)),Int.toNat_natCast,sI T pre r rest hs,Option.bind_some,if_pos (am (by rw[List.length_map];omega)),Option.bind_some]
   simp only[rc]
   rw[hx]
   rfl
  | some y =>
   obtain⟨p',e',vs⟩:=y
   rw[hr] at htile
   simp only at htile ⊢
   obtain⟨a1,a2,a3,a4⟩:=Dl g sz sh l h4 hsh hl r.2.2.1 r.2.2.2 p e hp he p' e' vs hr
   have hput:=WS w h hw0 r ht hw hh hwh vs all ha a3
   have hB:co 200000 (k+1) (B l,(w:Int),((pre.length:Nat):Int),b,d,g,t,m0,m1,m2,s0,s1,s2,b,d,g,t,m0,m1,m2,s0,s1,s2,(sz:Int),T.map rc,nl all,B l,(p:Int),e) =
     if (e' != 0)=true then some (.inl (180,[])) else
      (co 200000 k (B l,(w:Int),IntKind.wrap .i64 (((pre.length:Nat):Int)+1),b,d,g,t,m0,m1,m2,s0,s1,s2,b,d,g,t,m0,m1,m2,s0,s1,s2,(sz:Int),T.map rc,nl (d7 w r vs all (r.2.2.1*r.2.2.2)),B l,(p':Int),e')).bind fun r=>match r with|.inl y=>some (.inl y)|.inr y=>some (.inr y):=by
    rw[hF]
    generalize co 200000 k=G
    simp only[iq,ae]
    rw[aK (by rw[List.length_map];omega),if_pos (am (by rw[List.length_map];omega)),Int.toNat_natCast,sI T pre r rest hs,Option.bind_some,if_pos (am (by rw[List.length_map];omega)),Option.bind_some]
    simp only[rc]
    rw[htile]
    simp only[Option.bind_some,Bool.not_true,Bool.false_eq_true,if_false]
    rw[if_pos (am (by rw[List.length_map];omega)),hput]
    rfl
   rw[hB]
   by_cases he0:e'=0
   ·rw[if_neg (by simpa using he0),if_neg (by simpa using he0)]
    have ih:=Fj w h T hw1 hw hh hwh hT hTl rest (pre++[r]) p' k e' (d7 w r vs all (r.2.2.1*r.2.2.2)) (by rw[hs];simp) (by simp at hk;omega) a1 a2 (by rw[d6];exact ha) (JR w r vs all _ a4 ha32)
    rw[aQ (by omega) (by omega),show((pre.length:Nat):Int)+1=(((pre++[r]).length:Nat):Int) by simp]
    cases hu:ng g sz sh l w rest p' e' (d7 w r vs all (r.2.2.1*r.2.2.2)) with
    | none =>
     rw[hu] at ih
     simp only at ih ⊢
     rw[ih];rfl
    | some y =>
     rw[hu] at ih
     simp only at ih ⊢
     rw[ih];rfl
   ·rw[if_pos he0,if_pos (by simpa using he0)]
end
end Go.Proofs.YtfcamlibbfnldaaGreat.Am
set_option maxRecDepth 100000
namespace Go.Proofs.YtfcamlibbfnldaaGreat.Am
open Go.Am
section
variable (b d:Int) (g t:Bool) (m0 m1 m2 s0 s1 s2:Int)
theorem Us (n:Nat):nl ((List.replicate n 0).map (dz m0 m1 m2 s0 s1 s2))=List.replicate n 0:=by
 rw[List.map_replicate,Rx]
 unfold nl
 rw[List.map_replicate]
 rfl
theorem QV (n:Nat):nl (List.replicate n 0)=List.replicate n 0:=by
 unfold nl
 rw[List.map_replicate]
 rfl
end
end Go.Proofs.YtfcamlibbfnldaaGreat.Am
