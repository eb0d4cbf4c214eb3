/-
  SEVERAL TEXTS IN ONE (merged by program): contracts and models, each with its own heading.
-/
import Derived.Test.YtbaefeecjjhhkaaGreatDoorPartOcbI
import Derived.Deep.AppendLies
import Derived.Laws.ResultCell
import Derived.Lib.AppendZeros
import Derived.Deep.RegionHeld3
import Derived.Deep.RegionLaw
set_option maxHeartbeats 8000000
open Go.Proofs Go.Proofs.Tryz
set_option linter.unusedSimpArgs false
set_option linter.unusedVariables false
set_option maxRecDepth 100000
namespace Go.Ab
def lT(b:UInt8):Bool:=decide (b.toNat=32)||decide (b.toNat=10)
def gy(l:List UInt8):List UInt8:=l.dropWhile lT
theorem zO(l:List UInt8):gy l <:+ l:=List.dropWhile_suffix _
theorem BU(l:List UInt8):(gy l).length<=l.length:=(zO l).length_le
theorem acr{l u:List UInt8}{b:UInt8}(h:gy l=b::u):lT b=false:=by
 induction l with
 |nil=>cases h
 |cons a l ih=>
  unfold gy at h ih;rw[List.dropWhile_cons] at h;split at h
  ·exact ih h
  ·rename_i h1;injection h with h2 h3;subst h2;simpa using h1
theorem rO{b:UInt8}{u:List UInt8}(h:lT b=false):gy (b::u)=b::u:=by
 unfold gy;rw[List.dropWhile_cons,h];rfl
theorem Dq{b:UInt8}{u:List UInt8}(h:lT b=true):gy (b::u)=gy u:=by
 unfold gy;rw[List.dropWhile_cons,h];rfl
theorem Kk{b:UInt8}(h:bK b=true):lT b=false/\b≠40/\b≠41:=by
 refine⟨?_,fun e=> ?_,fun e=> ?_⟩
 ·cases hb:lT b with
  |false=>rfl
  |true=>
   unfold lT at hb;unfold bK at h;simp only[Bool.or_eq_true,decide_eq_true_eq] at hb h;rcases hb with hb|hb
   ·obtain rfl:b=32:=UInt8.toNat_inj.1 hb;revert h;decide
   ·obtain rfl:b=10:=UInt8.toNat_inj.1 hb;revert h;decide
 ·subst e;revert h;decide
 ·subst e;revert h;decide
structure RS where
 t:List UInt8
 deep:Nat
 size:Nat
 bad:Bool
mutual
def lH:Nat->RS->aj×RS
 |0,r=>(bT,⟨r.t,r.deep,r.size+1,true⟩)
 |n+1,r=>match gy r.t with
  |[]=>(bT,⟨[],r.deep,r.size+1,true⟩)
  |b::u=>if 900<r.size+1 then(bT,⟨b::u,r.deep,r.size+1,true⟩) else
   if bK b=true then(bF (b::u.takeWhile bK),⟨u.dropWhile bK,r.deep,r.size+1,false⟩) else
   if b≠40\/r.deep=14 then(bT,⟨b::u,r.deep,r.size+1,true⟩) else qN n ⟨u,r.deep+1,r.size+1,false⟩ []
def qN:Nat->RS->List aj->aj×RS
 |0,r,acc=>(bq acc,⟨r.t,r.deep,r.size,true⟩)
 |n+1,r,acc=>if r.bad=true then(bq acc,r) else
  if(gy r.t).head? =some 41 then(bq acc,⟨(gy r.t).tail,r.deep-1,r.size,false⟩) else
  qN n (lH n ⟨gy r.t,r.deep,r.size,false⟩).2 (acc++[(lH n ⟨gy r.t,r.deep,r.size,false⟩).1])
end
structure arB(x:aj)(r r':RS):Prop where
 suf:r'.t <:+ r.t
 deep:r'.bad=false->r'.deep=r.deep
 low:r'.deep<=14
 size:r.size+1<=r'.size/\r'.size<=901
 sz:x.sz+1<=(r.t.length-r'.t.length)+(r'.size-r.size)
 go:r'.bad=false->r'.t.length<r.t.length/\r'.size<=900
structure arC(acc:List aj)(x:aj)(r r':RS):Prop where
 suf:r'.t <:+ r.t
 deep:r'.bad=false->r'.deep=r.deep-1/\r.bad=false/\r'.size<=900
 low:r'.deep<=14
 size:r.size<=r'.size/\r'.size<=901
 sz:∃l,x=bq (acc++l)/\l.length+cZ l<=(r.t.length-r'.t.length)+(r'.size-r.size)/\l.length<=r'.size-r.size
theorem Rf:∀n:Nat,(∀r:RS,r.deep<=14->r.size<=900->arB (lH n r).1 r (lH n r).2)/\
 (∀(r:RS) (acc:List aj),r.deep<=14->r.size<=901->(r.bad=false->1<=r.deep/\r.size<=900)->arC acc (qN n r acc).1 r (qN n r acc).2)
 |0=>by
  refine⟨fun r h1 h2=> ?_,fun r acc h1 h2 h3=> ?_⟩
  ·rw[lH];exact⟨List.suffix_refl _,(fun h=>by cases h),h1,⟨Nat.le_refl _,by simp only;omega⟩,by simp[bT,jH,aj.aG,aj.ah,bf],(fun h=>by cases h)⟩
  ·rw[qN];exact⟨List.suffix_refl _,(fun h=>by cases h),h1,⟨Nat.le_refl _,h2⟩,[],by rw[List.append_nil],by simp[cZ],by simp⟩
 |n+1=>by
  obtain⟨ih1,ih2⟩:=Rf n
  have z0:bT.sz=0:=by simp[bT,jH,aj.aG,aj.ah,bf]
  refine⟨fun r h1 h2=> ?_,fun r acc h1 h2 h3=> ?_⟩
  ·rw[lH];have hs:=zO r.t;split
   ·rename_i e;rw[e] at hs;exact⟨hs,(fun h=>by cases h),h1,⟨Nat.le_refl _,by simp only;omega⟩,by simp only[z0];omega,(fun h=>by cases h)⟩
   ·rename_i b u e;rw[e] at hs;have hl:=hs.length_le;rw[List.length_cons] at hl;split
    ·exact⟨hs,(fun h=>by cases h),h1,⟨Nat.le_refl _,by simp only;omega⟩,by simp only[z0];omega,(fun h=>by cases h)⟩
    ·split
     ·have hd:u.dropWhile bK <:+ u:=List.dropWhile_suffix _;have hdl:=hd.length_le
      have htd:(u.takeWhile bK).length+(u.dropWhile bK).length=u.length:=by
       rw[<-List.length_append,List.takeWhile_append_dropWhile]
      refine⟨(hd.trans (List.suffix_cons b u)).trans hs,fun _=>rfl,h1,⟨Nat.le_refl _,by simp only;omega⟩,?_,fun _=> ?_⟩
      ·rw[jI,List.length_cons];simp only;omega
      ·simp only;omega
     ·split
      ·exact⟨hs,(fun h=>by cases h),h1,⟨Nat.le_refl _,by simp only;omega⟩,by simp only[z0];omega,(fun h=>by cases h)⟩
      ·have hc:=ih2 ⟨u,r.deep+1,r.size+1,false⟩ [] (by simp only;omega) (by simp only;omega) (fun _=>by simp only;omega);obtain⟨c1,c2,c3,c4,l,c5,c6,c7⟩:=hc;have c8:=c1.length_le;simp only at c1 c2 c4 c6 c7 c8;refine⟨(c1.trans (List.suffix_cons b u)).trans hs,fun h=>by rw[(c2 h).1];omega,c3,⟨by omega,c4.2⟩,?_,fun h=>⟨by omega,(c2 h).2.2⟩⟩;rw[c5,List.nil_append,jh];omega
  ·rw[qN];have hs:=zO r.t;have hl:=hs.length_le;split
   ·exact⟨List.suffix_refl _,(fun h=>by rename_i hb;rw[hb] at h;cases h),h1,⟨Nat.le_refl _,h2⟩,[],by rw[List.append_nil],by simp[cZ],by simp⟩
   ·rename_i hb
    have hb':r.bad=false:=by simpa using hb
    have h3':=h3 hb';split
    ·have ht:(gy r.t).tail <:+ gy r.t:=List.tail_suffix _;refine⟨ht.trans hs,fun _=>⟨rfl,hb',h3'.2⟩,by simp only;omega,⟨Nat.le_refl _,h2⟩,[],by rw[List.append_nil],by simp[cZ],by simp⟩
    ·have hc:=ih1 ⟨gy r.t,r.deep,r.size,false⟩ h1 h3'.2;obtain⟨x,hx⟩:∃x,x=lH n ⟨gy r.t,r.deep,r.size,false⟩:=⟨_,rfl⟩;rw[<-hx] at hc ⊢;clear hx;obtain⟨c1,c2,c3,c4,c5,c6⟩:=hc;simp only at c1 c2 c4 c5 c6;have c7:=c1.length_le;obtain⟨d1,d2,d3,d4,l,d5,d6,d7⟩:=ih2 x.2 (acc++[x.1]) c3 c4.2 (fun hq=>⟨by rw[c2 hq];exact h3'.1,(c6 hq).2⟩);have d8:=d1.length_le;refine⟨(d1.trans c1).trans hs,fun hq=>⟨by rw[(d2 hq).1,c2 (d2 hq).2.1],hb',(d2 hq).2.2⟩,d3,⟨by omega,d4.2⟩,x.1::l,by rw[d5,List.append_assoc];rfl,?_,?_⟩
     ·rw[List.length_cons,cZ];omega
     ·rw[List.length_cons];omega
inductive Tok where
 |op
 |cl
 |wd (b:UInt8) (u:List UInt8)
 |no
def FX:Nat->List UInt8->List Tok
 |0,_=>[]
 |n+1,l=>match gy l with
  |[]=>[]
  |b::u=>if bK b=true then .wd b (u.takeWhile bK)::FX n (u.dropWhile bK) else if b=40 then .op::FX n u else if b=41 then .cl::FX n u else [.no]
theorem LH:∀(n m:Nat)(l:List UInt8),l.length<n->l.length<m->FX n l=FX m l
 |0,m,l,h,_=>by omega
 |n+1,0,l,_,h=>by omega
 |n+1,m+1,l,h1,h2=>by
  rw[FX,FX];have hs:=BU l;split
  ·rfl
  ·rename_i b u e;rw[e,List.length_cons] at hs;have hd:(u.dropWhile bK).length<=u.length:=(List.dropWhile_suffix bK).length_le;rw[LH n m u (by omega) (by omega),LH n m (u.dropWhile bK) (by omega) (by omega)]
def lex(l:List UInt8):List Tok:=FX (l.length+1) l
theorem lex_nil{l:List UInt8}(h:gy l=[]):lex l=[]:=by
 unfold lex;rw[FX,h]
theorem kR{l u:List UInt8}{b:UInt8}(h:gy l=b::u):lex l=if bK b=true then .wd b (u.takeWhile bK)::lex (u.dropWhile bK) else if b=40 then .op::lex u else if b=41 then .cl::lex u else [.no]:=by
 have hs:=BU l;rw[h,List.length_cons] at hs;have hd:(u.dropWhile bK).length<=u.length:=(List.dropWhile_suffix bK).length_le;unfold lex;rw[FX,h]
 simp only
 rw[LH _ (u.length+1) u (by omega) (by omega),LH _ ((u.dropWhile bK).length+1) (u.dropWhile bK) (by omega) (by omega)]
theorem wO(l:List UInt8):lex (gy l)=lex l:=by
 cases h:gy l with
 |nil=>rw[lex_nil h];rfl
 |cons b u=>rw[kR h,kR (l:=b::u) (rO (acr h))]
theorem alj{l:List UInt8}(h:lex l=[]):gy l=[]:=by
 cases e:gy l with
 |nil=>rfl
 |cons b u=>
  rw[kR e] at h;split at h
  ·cases h
  ·split at h
   ·cases h
   ·split at h<;>cases h
mutual
def qp:aj->List Tok
 | .mk [] l=>.op::jN l++[.cl]
 | .mk (b::u) _=>[.wd b u]
def jN:List aj->List Tok
 |[]=>[]
 |x::xs=>qp x++jN xs
end
theorem Cv:∀a b,jN (a++b)=jN a++jN b
 |[],b=>rfl
 |x::a,b=>by rw[List.cons_append,jN,jN,Cv a b,List.append_assoc]
theorem Ph(l:List aj):qp (bq l)=.op::jN l++[.cl]:=by unfold bq;rw[qp]
theorem Pj(b:UInt8)(u:List UInt8):qp (bF (b::u))=[.wd b u]:=by unfold bF;rw[qp]
theorem Pk:∀n:Nat,(∀r:RS,(lH n r).2.bad=false->lex r.t=qp (lH n r).1++lex (lH n r).2.t)/\
 (∀(r:RS) (acc:List aj),(qN n r acc).2.bad=false->∃l,(qN n r acc).1=bq (acc++l)/\lex r.t=jN l++ .cl::lex (qN n r acc).2.t)
 |0=>⟨fun r h=>(by rw[lH] at h;cases h),fun r acc h=>(by rw[qN] at h;cases h)⟩
 |n+1=>by
  obtain⟨ih1,ih2⟩:=Pk n;refine⟨fun r h=> ?_,fun r acc h=> ?_⟩
  ·rw[lH] at h ⊢;split at h
   ·cases h
   ·rename_i b u e;split at h
    ·cases h
    ·rename_i h1;rw[kR e];simp only[h1,if_false];split at h
     ·rename_i h2;rw[if_pos h2];simp only[h2,if_true];rw[Pj];rfl
     ·rename_i h2;split at h
      ·cases h
      ·rename_i h3;have hb:b=40:=Classical.byContradiction fun hb=>h3 (.inl hb);simp only[if_neg h2,if_neg h3,if_pos hb];obtain⟨l,q1,q2⟩:=ih2 _ [] h;rw[q1,List.nil_append,Ph];simp only at q2;rw[q2]
       simp
  ·rw[qN] at h ⊢;split at h
   ·rename_i hb;rw[hb] at h;cases h
   ·rename_i hb;rw[if_neg hb];split at h
    ·rename_i h1;rw[if_pos h1];refine⟨[],by rw[List.append_nil],?_⟩
     cases e:gy r.t with
     |nil=>rw[e] at h1;cases h1
     |cons b u=>
      rw[e] at h1
      have hb:b=41:=by simpa using h1
      subst hb;rw[kR e];rfl
    ·rename_i h1;rw[if_neg h1];obtain⟨l,q1,q2⟩:=ih2 _ _ h
     have hx:(lH n ⟨gy r.t,r.deep,r.size,false⟩).2.bad=false:=by
      cases hq:(lH n ⟨gy r.t,r.deep,r.size,false⟩).2.bad with
      |false=>rfl
      |true=>
       exfalso;revert h
       cases n with
       |zero=>rw[qN];simp
       |succ n=>rw[qN,if_pos hq,hq];simp
     have h2:=ih1 _ hx;simp only at h2;rw[wO] at h2;refine⟨(lH n ⟨gy r.t,r.deep,r.size,false⟩).1::l,by rw[q1,List.append_assoc];rfl,?_⟩;rw[h2,q2,jN,List.append_assoc]
mutual
theorem SH:∀(x:aj),gP x=true->∀(r:RS)(k:List Tok),lex r.t=qp x++k->r.size+je x<=900->r.deep+kZ x<=14->
 ∃(N:Nat) (u:List UInt8),lex u=k/\∀n,N<=n->lH n r=(x,⟨u,r.deep,r.size+je x,false⟩)
 | .mk a l=>fun hf r k hk hn hd=>by
   cases a with
   |nil=>
    rw[qp] at hk
    have hf':iG l=true:=by rw[gP,if_pos rfl] at hf;exact hf
    have hn':r.size+(jX l+1)<=900:=by rw[je] at hn;exact hn
    have hd':r.deep+(mM l+1)<=14:=by rw[kZ,if_pos rfl] at hd;exact hd
    cases e:gy r.t with
    |nil=>rw[lex_nil e] at hk;simp at hk
    |cons b u=>
     rw[kR e] at hk
     have hb:bK b=false/\b=40/\lex u=jN l++ .cl::k:=by
      split at hk
      ·simp at hk
      ·rename_i h1;split at hk
       ·rename_i h2;exact⟨by simpa using h1,h2,by simpa using hk⟩
       ·split at hk<;>simp at hk
     obtain⟨N,v,h1,h2⟩:=Pm l hf' ⟨u,r.deep+1,r.size+1,false⟩ [] k hb.2.2 rfl (by simp only;omega) (by simp only;omega);refine⟨N+1,v,h1,fun n hN=> ?_⟩
     cases n with
     |zero=>omega
     |succ n=>
      rw[lH,e]
      simp only
      rw[if_neg (by omega),if_neg (by rw[hb.1];decide),if_neg (by rw[hb.2.1];simp;omega),h2 n (by omega)];simp only[List.nil_append,Nat.add_sub_cancel,bq,je];congr 2;omega
   |cons c v=>
    rw[qp] at hk
    have hf':validAtom (c::v)=true/\l=[]:=by
     rw[gP,if_neg (by simp)] at hf;simp only[Bool.and_eq_true,decide_eq_true_eq,List.length_eq_zero_iff] at hf;exact hf
    obtain⟨-,rfl⟩:=hf'
    cases e:gy r.t with
    |nil=>rw[lex_nil e] at hk;simp at hk
    |cons b u=>
     rw[kR e] at hk;split at hk
     ·rename_i h1;simp only[List.cons_append,List.nil_append,List.cons.injEq,Tok.wd.injEq] at hk;refine⟨1,u.dropWhile bK,hk.2,fun n hN=> ?_⟩
      cases n with
      |zero=>omega
      |succ n=>
       have hz:je (.mk (c::v) [])=1:=rfl;rw[hz] at hn;rw[lH,e]
       simp only
       rw[if_neg (by omega),if_pos h1,hk.1.1,hk.1.2,hz];rfl
     ·split at hk
      ·simp at hk
      ·split at hk<;>simp at hk
theorem Pm:∀(l:List aj),iG l=true->∀(r:RS)(acc:List aj)(k:List Tok),lex r.t=jN l++ .cl::k->r.bad=false->r.size+jX l<=900->r.deep+mM l<=14->
 ∃(N:Nat) (u:List UInt8),lex u=k/\∀n,N<=n->qN n r acc=(bq (acc++l),⟨u,r.deep-1,r.size+jX l,false⟩)
 |[]=>fun hf r acc k hk hb hn hd=>by
  rw[jN,List.nil_append] at hk
  cases e:gy r.t with
  |nil=>rw[lex_nil e] at hk;simp at hk
  |cons b u=>
   rw[kR e] at hk
   have hb':b=41/\lex u=k:=by
    split at hk
    ·simp at hk
    ·split at hk
     ·simp at hk
     ·split at hk
      ·rename_i h3;exact⟨h3,by simpa using hk⟩
      ·simp at hk
   refine⟨1,u,hb'.2,fun n hN=> ?_⟩
   cases n with
   |zero=>omega
   |succ n=>
    rw[qN,if_neg (by rw[hb];decide),if_pos (by rw[e,hb'.1];rfl),e,List.append_nil];rfl
 |x::l=>fun hf r acc k hk hb hn hd=>by
  rw[jN,List.append_assoc] at hk;rw[iG,Bool.and_eq_true] at hf;rw[jX] at hn;rw[mM] at hd;obtain⟨N,u,h1,h2⟩:=SH x hf.1 ⟨gy r.t,r.deep,r.size,false⟩ _ (by rw[wO];exact hk) (by simp only;omega) (by simp only;omega);obtain⟨M,v,h3,h4⟩:=Pm l hf.2 ⟨u,r.deep,r.size+je x,false⟩ (acc++[x]) k h1 rfl (by simp only;omega) (by simp only;omega);refine⟨N+M+1,v,h3,fun n hN=> ?_⟩
  cases n with
  |zero=>omega
  |succ n=>
   have hne:(gy r.t).head? ≠some 41:=fun hq=>by
    cases e:gy r.t with
    |nil=>rw[e] at hq;cases hq
    |cons b w=>
     rw[e] at hq
     have arD:b=41:=by simpa using hq
     rw[kR e,arD] at hk
     cases x with|mk a l'=> ?_
     cases a with
     |nil=>rw[qp] at hk;revert hk;simp[show bK 41=false from by decide]
     |cons c v=>rw[qp] at hk;revert hk;simp[show bK 41=false from by decide]
   rw[qN,if_neg (by rw[hb];decide),if_neg hne,h2 n (by omega)]
   simp only
   rw[h4 n (by omega),List.append_assoc,jX];simp only[List.cons_append,List.nil_append];congr 2;omega
end
def yB:Nat->List UInt8->List (List aj)->Nat->Option (List (List aj))
 |0,_,_,_=>none
 |_+1,[],rows,_=>some rows
 |n+1,b::u,rows,c=>if lT b=true then yB n u rows c else
  if b=40 then(if 15<rows.length+1\/1800<c+1 then none else yB n u ([]::rows) (c+1)) else
  if b=41 then(match rows with
   |x::y::z=>if 1800<c+1 then none else yB n u ((y++[bq x])::z) (c+1)
   |_=>none) else
  if bK b=true then(match rows with
   |x::z=>if 1800<c+1 then none else yB n (u.dropWhile bK) ((x++[bF (b::u.takeWhile bK)])::z) (c+1)
   |[]=>none) else none
def runT:List Tok->List (List aj)->Nat->Option (List (List aj))
 |[],rows,_=>some rows
 | .op::k,rows,c=>if 15<rows.length+1\/1800<c+1 then none else runT k ([]::rows) (c+1)
 | .cl::k,x::y::z,c=>if 1800<c+1 then none else runT k ((y++[bq x])::z) (c+1)
 | .wd b u::k,x::z,c=>if 1800<c+1 then none else runT k ((x++[bF (b::u)])::z) (c+1)
 |_,_,_=>none
theorem yC:∀(n:Nat)(l:List UInt8)(rows:List (List aj))(c:Nat),l.length<n->yB n l rows c=runT (lex l) rows c
 |0,l,rows,c,h=>by omega
 |n+1,[],rows,c,h=>by rw[yB,lex_nil rfl];rfl
 |n+1,b::u,rows,c,h=>by
  rw[List.length_cons] at h;have hd:(u.dropWhile bK).length<=u.length:=(List.dropWhile_suffix bK).length_le;rw[yB.eq_def]
  simp only
  by_cases hb:lT b=true
  ·rw[if_pos hb,yC n u rows c (by omega),<-wO (b::u),Dq hb,wO]
  ·rw[if_neg hb]
   have hb':lT b=false:=by simpa using hb
   rw[kR (rO hb')];by_cases Pn:b=40
   ·subst Pn;rw[if_pos rfl,if_neg (show ¬bK 40=true by decide),if_pos rfl,runT,yC n u _ _ (by omega)]
   ·rw[if_neg Pn];by_cases SI:b=41
    ·subst SI;rw[if_pos rfl,if_neg (show ¬bK 41=true by decide),if_neg (show ¬(41:UInt8)=40 by decide),if_pos rfl]
     match rows with
     |[]=>simp[runT]
     |[x]=>simp[runT]
     |x::y::z=>simp only[runT];rw[yC n u _ _ (by omega)]
    ·rw[if_neg SI];by_cases ha:bK b=true
     ·rw[if_pos ha,if_pos ha]
      match rows with
      |[]=>simp[runT]
      |x::z=>simp only[runT];rw[yC n _ _ _ (by omega)]
     ·rw[if_neg ha,if_neg ha,if_neg Pn,if_neg SI]
      cases rows with
      |nil=>simp[runT]
      |cons x z=>simp[runT]
def Bo:List (List aj)->List Tok
 |[]=>[]
 |x::z=>(if z=[] then [] else Bo z++[.op])++jN x
theorem Dr:∀(k:List Tok)(rows:List (List aj))(c:Nat)(out:List (List aj)),rows≠[]->runT k rows c=some out->out≠[]/\Bo out=Bo rows++k
 |[],rows,c,out,h0,h=>by
  rw[runT] at h;cases h;exact⟨h0,by rw[List.append_nil]⟩
 | .op::k,rows,c,out,h0,h=>by
   rw[runT] at h;split at h
   ·cases h
   ·obtain⟨a,b⟩:=Dr k _ _ out (by simp) h;refine⟨a,?_⟩;rw[b,Bo,if_neg h0,jN,List.append_nil,List.append_assoc];rfl
 | .cl::k,[],c,out,h0,h=>absurd rfl h0
 | .cl::k,[x],c,out,h0,h=>by simp[runT] at h
 | .cl::k,x::y::z,c,out,h0,h=>by
   rw[runT] at h;split at h
   ·cases h
   ·obtain⟨a,b⟩:=Dr k _ _ out (by simp) h;refine⟨a,?_⟩;rw[b,Bo,Bo,Bo,if_neg (by simp:¬y::z=[]),Cv,jN,jN,List.append_nil,Ph];simp only[List.append_assoc,List.cons_append,List.nil_append]
 | .wd b u::k,[],c,out,h0,h=>absurd rfl h0
 | .wd b u::k,x::z,c,out,h0,h=>by
   rw[runT] at h;split at h
   ·cases h
   ·obtain⟨a,e⟩:=Dr k _ _ out (by simp) h;refine⟨a,?_⟩;rw[e,Bo,Bo,Cv,jN,jN,List.append_nil,Pj];simp only[List.append_assoc,List.cons_append,List.nil_append]
 | .no::k,rows,c,out,h0,h=>by simp[runT] at h
mutual
theorem SK:∀(x:aj),gP x=true->∀(k:List Tok)(r:List aj)(z:List (List aj))(c:Nat),z.length+1+kZ x<=15->c+2*je x<=1800->
 ∃d,d<=c+2*je x/\runT (qp x++k) (r::z) c=runT k ((r++[x])::z) d
 | .mk [] l=>fun hf k r z c hd hc=>by
   rw[gP,if_pos rfl] at hf;rw[kZ,if_pos rfl] at hd;rw[je] at hc;obtain⟨d,h1,h2⟩:=Po l hf (.cl::k) [] (r::z) (c+1) (by rw[List.length_cons];omega) (by omega);refine⟨d+1,by rw[je];omega,?_⟩;rw[qp,List.cons_append,List.cons_append,List.append_assoc];simp only[List.cons_append,List.nil_append];rw[runT,if_neg (by rw[List.length_cons];omega),h2,runT,if_neg (by omega)];rfl
 | .mk (b::u) l=>fun hf k r z c hd hc=>by
   rw[gP,if_neg (by simp)] at hf;simp only[Bool.and_eq_true,decide_eq_true_eq,List.length_eq_zero_iff] at hf;obtain⟨-,rfl⟩:=hf;have hz:je (.mk (b::u) [])=1:=rfl;rw[hz] at hc ⊢;refine⟨c+1,by omega,?_⟩;rw[qp,List.cons_append,List.nil_append,runT,if_neg (by omega)];rfl
theorem Po:∀(l:List aj),iG l=true->∀(k:List Tok)(r:List aj)(z:List (List aj))(c:Nat),z.length+1+mM l<=15->c+2*jX l<=1800->
 ∃d,d<=c+2*jX l/\runT (jN l++k) (r::z) c=runT k ((r++l)::z) d
 |[]=>fun hf k r z c hd hc=>⟨c,by omega,by rw[jN,List.append_nil];rfl⟩
 |x::l=>fun hf k r z c hd hc=>by
  rw[iG,Bool.and_eq_true] at hf;rw[mM] at hd;rw[jX] at hc;obtain⟨d,h1,h2⟩:=SK x hf.1 (jN l++k) r z c (by omega) (by omega);obtain⟨e,h3,h4⟩:=Po l hf.2 k (r++[x]) z d (by omega) (by omega);refine⟨e,by rw[jX];omega,?_⟩;rw[jN,List.append_assoc,h2,h4,List.append_assoc];rfl
end
def Denotes(s:List UInt8)(x:aj):Prop:=dI x=true/\lex s=qp x
theorem zP{x:aj}(h:dI x=true):gP x=true/\kZ x<=14/\je x<=900:=by
 unfold dI at h;simpa using h
theorem Bp{s:List UInt8}{x:aj}(h:Denotes s x):yB (s.length+1) s [[]] 0=some [[x]]:=by
 obtain⟨h1,h2,h3⟩:=zP h.1;obtain⟨d,_,h4⟩:=SK x h1 [] [] [] 0 (by simp;omega) (by omega);rw[yC _ _ _ _ (Nat.lt_succ_self _),h.2,<-List.append_nil (qp x),h4];rfl
theorem Ze{s:List UInt8}{x y:aj}(h:Denotes s x)(h':Denotes s y):x=y:=by
 have:=(Bp h).symm.trans (Bp h');simpa using this
theorem MF{s:List UInt8}{x:aj}(h:yB (s.length+1) s [[]] 0=some [[x]])(hv:dI x=true):Denotes s x:=by
 rw[yC _ _ _ _ (Nat.lt_succ_self _)] at h;obtain⟨_,h⟩:=Dr _ _ _ _ (by simp) h;simp only[Bo,if_true,List.nil_append,jN,List.append_nil] at h;exact⟨hv,h.symm⟩
open Classical in
noncomputable def j3(s:List UInt8):Bool:=dec (∃x,Denotes s x)
open Classical in
noncomputable def jm(s:List UInt8):aj:=if h:∃x,Denotes s x then h.choose else bT
theorem yU{s:List UInt8}{x:aj}(h:Denotes s x):j3 s=true/\jm s=x:=by
 have h':∃x,Denotes s x:=⟨x,h⟩;refine⟨bD h',?_⟩;unfold jm;rw[dif_pos h'];exact Ze h'.choose_spec h
theorem WG{s:List UInt8}(h:∀x,¬Denotes s x):j3 s=false/\jm s=bT:=by
 have h':¬∃x,Denotes s x:=fun⟨x,hx⟩=>h x hx;refine⟨aK h',?_⟩;unfold jm;rw[dif_neg h']
theorem Zf{s:List UInt8}(h:j3 s=true):dI (jm s)=true:=by
 obtain⟨x,hx⟩:=gq h;rw[(yU hx).2];exact hx.1
def Pp(s:List UInt8):Nat:=2*s.length+2
theorem WH(s:List UInt8):∃n,Pp s<=n/\dec ((lH n ⟨s,0,0,false⟩).2.bad=false/\gy (lH n ⟨s,0,0,false⟩).2.t=[]/\dI (lH n ⟨s,0,0,false⟩).1=true)=j3 s/\(j3 s=true->(lH n ⟨s,0,0,false⟩).1=jm s):=by
 by_cases h:∃x,Denotes s x
 ·obtain⟨x,hx⟩:=h;obtain⟨h1,h2,h3⟩:=zP hx.1;obtain⟨N,u,hu,hN⟩:=SH x h1 ⟨s,0,0,false⟩ [] (by rw[List.append_nil];exact hx.2) (by simp only;omega) (by simp only;omega);refine⟨N+Pp s,by omega,?_,fun _=> ?_⟩
  ·rw[hN _ (by omega),(yU hx).1];exact bD ⟨rfl,alj hu,hx.1⟩
  ·rw[hN _ (by omega),(yU hx).2]
 ·have hno:=WG (s:=s) fun x hx=>h ⟨x,hx⟩;refine⟨Pp s,Nat.le_refl _,?_,fun e=>by rw[hno.1] at e;cases e⟩;rw[hno.1];refine aK fun hq=>h ⟨_,hq.2.2,?_⟩;have:=(Pk (Pp s)).1 ⟨s,0,0,false⟩ hq.1;simp only at this;rw[this,lex_nil hq.2.1,List.append_nil]
theorem Kl(s:List UInt8):((∃x,yB (s.length+1) s [[]] 0=some [[x]]/\dI x=true)<->j3 s=true)/\∀x,yB (s.length+1) s [[]] 0=some [[x]]->dI x=true->jm s=x:=
 ⟨⟨fun⟨x,h1,h2⟩=>(yU (MF h1 h2)).1,fun h=>by
   obtain⟨x,hx⟩:=gq h
   exact⟨x,Bp hx,hx.1⟩⟩,fun x h1 h2=>(yU (MF h1 h2)).2⟩
structure Cw(w:World)(σ:Nat->Nat)(B:Nat)(e:TypeId)(v:Value)(l:List aj):Prop where
 own:∃xs,w.ownsRow B e 2 v l.length xs/\∀(i:Nat)(d:D),(l.map aj.enc).flatten[i]? =some d->∃u,xs[i]? =some u/\dJ w σ d u
 free:∀b,v.ownBlock=some b->σ b=0
theorem Fq{w w':World}{B:Nat}{e:TypeId}{z n:Nat}{v:Value}{xs:List Value}(h:w.ownsRow B e z v n xs)(hk:∀b,v.ownBlock=some b->w'.heap[b]? =w.heap[b]?):w'.ownsRow B e z v n xs:=by
 refine⟨h.1,?_⟩;rcases h.2 with hn|⟨g,cap,cur,rfl,hb,hg,rest⟩
 ·exact .inl hn
 ·exact .inr ⟨g,cap,cur,rfl,hb,(hk g rfl).trans hg,rest⟩
theorem Cw.mono{w w':World}{σ σ':Nat->Nat}{B:Nat}{e:TypeId}{v:Value}{l:List aj}(h:Cw w σ B e v l)(hn:eG w σ w' σ')(hk:∀b,v.ownBlock=some b->w'.heap[b]? =w.heap[b]? /\σ' b=σ b):Cw w' σ' B e v l:=by
 obtain⟨⟨xs,h1,h2⟩,h3⟩:=h;refine⟨⟨xs,Fq h1 fun b hb=>(hk b hb).1,fun i d hd=> ?_⟩,fun b hb=>(hk b hb).2.trans (h3 b hb)⟩;obtain⟨u,hu,hr⟩:=h2 i d hd;exact⟨u,hu,hr.mono hn⟩
theorem Eu(l:List aj):∀e∈l.map aj.enc,e.length=2:=by
 intro e he;obtain⟨x,_,rfl⟩:=List.mem_map.1 he;rw[aj.aQ];rfl
theorem Cw.fast{w:World}{σ:Nat->Nat}{B:Nat}{e:TypeId}{v:Value}{l:List aj}(h:Cw w σ B e v l)(hl:∀b,b<w.heap.size\/σ b=0):
 ∃σ',eG w σ w σ'/\(∀b,v.ownBlock≠some b->σ' b=σ b)/\(∀b,b<w.heap.size\/σ' b=0)/\dJ w σ' (.sl (l.map aj.enc)) v:=by
 obtain⟨⟨xs,⟨h1,h2⟩,h3⟩,h4⟩:=h;rcases h2 with⟨rfl,h0⟩|⟨g,cap,cur,rfl,hb,hg,hn,hm,hs,ht⟩
 ·obtain rfl:l=[]:=List.eq_nil_of_length_eq_zero h0;exact⟨σ,eG.refl _ _,fun _ _=>rfl,hl,.nil _ _⟩
 have hn':eG w σ w (fun b=>if b=g then 0+(l.map aj.enc).length*2 else σ b):=by
  intro b1 c1 t1 Gn e1;by_cases q:b1=g
  ·subst q;have:=h4 b1 rfl;rw[hg] at e1;cases e1;exact⟨by simp only[if_true];omega,fun h=>by omega,cur,hg,rfl,fun _ _=>rfl⟩
  ·exact⟨by simp only[if_neg q];exact Nat.le_refl _,fun _=>if_neg q,c1,e1,rfl,fun _ _=>rfl⟩
 refine⟨_,hn',fun b hb=>if_neg fun q=>hb (by rw[q];rfl),fun b=> ?_,?_⟩
 ·by_cases q:b=g
  ·left;rw[q];exact lt_of_some hg
  ·simp only[if_neg q];exact hl b
 ·have hlen:(l.map aj.enc).length=l.length:=by simp
  have hfl:=j4 _ 2 (Eu l)
  have:=dJ.sl (w:=w) (σ:=fun b=>if b=g then 0+(l.map aj.enc).length*2 else σ b) g 0 cap 2 (l.map aj.enc) (fun i=>(cur[i]?).getD undef) cur e (0,0) (by omega) (Eu l) hg (by simp) (fun i hi=>by
   have:i<cur.size:=by rw[hlen] at hi;have:l.length*2<=cap*2:=Nat.mul_le_mul_right _ hn;omega
   simp[this]) (fun i d hd=>by
   obtain⟨u,hu,hr⟩:=h3 i d hd;have hil:=(List.getElem?_eq_some_iff.1 hd).1;rw[<-ht,List.getElem?_take_of_lt (by omega),Array.getElem?_toList] at hu;simp only[hu,Option.getD_some]
   exact hr.mono hn')
  simp only[List.length_map] at this ⊢;exact this
structure j6(w:World)(σ:Nat->Nat)(B:Nat)(eo e:TypeId)(ov:Value)(hs:List Value)(rs:List (List aj)):Prop where
 own:w.ownsRow B eo 1 ov hs.length hs
 free:∀b,ov.ownBlock=some b->σ b=0
 rows:∀(j:Nat)(l:List aj),rs[j]? =some l->∃hv,hs[j]? =some hv/\Cw w σ B e hv l/\∀b,hv.ownBlock=some b->ov.ownBlock≠some b
 apart:∀(i j:Nat)(hi hj:Value)(b:Nat),i≠j->i<rs.length->j<rs.length->hs[i]? =some hi->hs[j]? =some hj->hi.ownBlock=some b->hj.ownBlock≠some b
theorem j6.mono{w w':World}{σ σ':Nat->Nat}{B:Nat}{eo e:TypeId}{ov:Value}{hs:List Value}{rs:List (List aj)}(h:j6 w σ B eo e ov hs rs)(hn:eG w σ w' σ')
 (hk:∀b,b<w.heap.size->σ b=0->w'.heap[b]? =w.heap[b]? /\σ' b=σ b):j6 w' σ' B eo e ov hs rs:=by
 have hlt:∀b,ov.ownBlock=some b->b<w.heap.size:=fun b hb=>(h.own.lt b hb).2;refine⟨Fq h.own fun b hb=>(hk b (hlt b hb) (h.free b hb)).1,fun b hb=>(hk b (hlt b hb) (h.free b hb)).2.trans (h.free b hb),fun j l hj=> ?_,h.apart⟩;obtain⟨hv,h1,h2,h3⟩:=h.rows j l hj;refine⟨hv,h1,h2.mono hn fun b hb=> ?_,h3⟩;obtain⟨xs,ho,_⟩:=h2.own;exact hk b (ho.lt b hb).2 (h2.free b hb)
theorem j6.grow{w w':World}{σ σ':Nat->Nat}{B:Nat}{eo e:TypeId}{ov:Value}{hs:List Value}{rs:List (List aj)}(h:j6 w σ B eo e ov hs rs)(hg:Grow w σ w' σ'):j6 w' σ' B eo e ov hs rs:=
 h.mono hg.near fun b hb _=>hg.old b hb
theorem j6.fast{w:World}{σ:Nat->Nat}{B:Nat}{eo e:TypeId}{ov:Value}{hs:List Value}{rs:List (List aj)}{l:List aj}(h:j6 w σ B eo e ov hs (rs++[l]))(hl:∀b,b<w.heap.size\/σ b=0):
 ∃σ' hv,eG w σ w σ'/\(∀b,b<w.heap.size\/σ' b=0)/\(∀b,b<B->σ' b=σ b)/\hs[rs.length]? =some hv/\dJ w σ' (.sl (l.map aj.enc)) hv/\j6 w σ' B eo e ov hs rs:=by
 obtain⟨hv,h1,h2,h3⟩:=h.rows rs.length l (by simp);obtain⟨σ',k1,k2,k3,k4⟩:=h2.fast hl;refine⟨σ',hv,k1,k3,fun b hb=>k2 b fun q=> ?_,h1,k4,h.own,fun b hb=>(k2 b fun q=>h3 b q hb).trans (h.free b hb),fun j l' hj=> ?_,fun i j hi hj b q1 q2 q3=>h.apart i j hi hj b q1 (by simp;omega) (by simp;omega)⟩
 ·obtain⟨xs,ho,_⟩:=h2.own;have:=(ho.lt b q).1;omega
 ·have hjl:=(List.getElem?_eq_some_iff.1 hj).1;obtain⟨hv',g1,g2,g3⟩:=h.rows j l' (by rw[List.getElem?_append_left hjl];exact hj);exact⟨hv',g1,g2.mono k1 fun b hb=>⟨rfl,k2 b fun q=>h.apart j rs.length hv' hv b (by omega) (by simp;omega) (by simp) g1 h1 hb q⟩,g3⟩
def qw(w W:World):Prop:=∀(b:Nat)(c:Array Value)(t:TypeId)(fz:Nat×Nat),w.heap[b]? =some (.cells c t fz)->∃c',W.heap[b]? =some (.cells c' t fz)/\c'.size=c.size
theorem qw.trans{a b c:World}(h:qw a b)(k:qw b c):qw a c:=fun x y t fz e=>by
 obtain⟨c1,e1,s1⟩:=h x y t fz e;obtain⟨c2,e2,s2⟩:=k x c1 t fz e1;exact⟨c2,e2,s2.trans s1⟩
theorem qw.setCell(w:World)(a:Addr)(v:Value)(ha:a.spot=none):qw w (w.setCell a v):=fun b c t fz e=>by
 obtain⟨bb,off,sp⟩:=a;simp only at ha;subst ha;by_cases q:bb=b
 ·subst q;exact⟨c.setIfInBounds off v,by simp[World.setCell,Array.getElem?_modify,e],by simp⟩
 ·exact⟨c,by simp[World.setCell,Array.getElem?_modify,q,e],rfl⟩
theorem qw.alloc(w:World)(o:Go.Obj):qw w (w.alloc o):=fun b c t fz e=>⟨c,(Lib.alloc_old w o b (lt_of_some e)).trans e,rfl⟩
theorem LJ{w W:World}{σ:Nat->Nat}(hs:qw w W)(hf:∀b,σ b≠0->W.heap[b]? =w.heap[b]?):eG w σ W σ:=by
 intro b c t fz e;refine⟨Nat.le_refl _,fun _=>rfl,?_⟩;by_cases h0:σ b=0
 ·obtain⟨c',e',hz⟩:=hs b c t fz e;exact⟨c',e',hz,fun i hi=>by omega⟩
 ·exact⟨c,(hf b h0).trans e,rfl,fun _ _=>rfl⟩
theorem j6.put{w W:World}{σ:Nat->Nat}{B g cap j:Nat}{eo e:TypeId}{hs:List Value}{rs:List (List aj)}{l':List aj}{hv hv':Value}{cur:Array Value}(hl:∀b,b<w.heap.size\/σ b=0)
 (h:j6 w σ B eo e (.slice (some ⟨g,0,none⟩) hs.length cap) hs rs)(hj:j<rs.length)(hh:hs[j]? =some hv)(hn:eG w σ W σ)(hg:w.heap[g]? =some (.cells cur eo (0,0)))(hG:W.heap[g]? =some (.cells (cur.setIfInBounds j hv') eo (0,0)))
 (tL:∀b,b<w.heap.size->b≠g->hv.ownBlock≠some b->W.heap[b]? =w.heap[b]?)(hrow:Cw W σ B e hv' l')(hblk:∀b,hv'.ownBlock=some b->hv.ownBlock=some b\/w.heap.size<=b):
 j6 W σ B eo e (.slice (some ⟨g,0,none⟩) hs.length cap) (hs.set j hv') (rs.set j l'):=by
 have hgl:=lt_of_some hg;have hg0:σ g=0:=h.free g rfl;obtain⟨l,hlj⟩:∃l,rs[j]? =some l:=⟨_,List.getElem?_eq_getElem hj⟩;obtain⟨hv0,a1,a2,a3⟩:=h.rows j l hlj;rw[hh] at a1;cases a1;have Jt:=(List.getElem?_eq_some_iff.1 hh).1
 have low:∀(i:Nat)(l0:List aj)(hv0:Value),rs[i]? =some l0->hs[i]? =some hv0->∀b,hv0.ownBlock=some b->b<w.heap.size:=fun i l0 hv0 e1 e2 b hb=>by
  obtain⟨hv1,c1,c2,_⟩:=h.rows i l0 e1;rw[e2] at c1;cases c1;obtain⟨xs,ho,_⟩:=c2.own;exact(ho.lt b hb).2
 refine⟨?_,h.free,fun i l0 hi=> ?_,fun i k hi hk b hne h1 h2 e1 e2 e3=> ?_⟩
 ·rw[List.length_set];obtain⟨o1,o2⟩:=h.own;refine⟨by rw[List.length_set];exact o1,?_⟩;rcases o2 with⟨o2,_⟩|⟨g0,cap0,atv,e0,hb0,hg0',hn0,hm0,hs0,ht0⟩
  ·cases o2
  ·cases e0;rw[hg] at hg0';cases hg0';refine .inr ⟨g,cap,_,rfl,hb0,hG,hn0,hm0,by simpa using hs0,?_⟩;rw[Nat.mul_one] at ht0 ⊢;rw[Array.toList_setIfInBounds,List.take_set,ht0]
 ·by_cases q:i=j
  ·subst q
   have:l'=l0:=by
    rw[List.getElem?_set_self hj] at hi;exact Option.some.inj hi
   subst this;refine⟨hv',List.getElem?_set_self Jt,hrow,fun b hb q=> ?_⟩;cases q;rcases hblk g hb with k|k
   ·exact a3 g k rfl
   ·omega
  ·rw[List.getElem?_set_ne (Ne.symm q)] at hi ⊢;obtain⟨hv1,c1,c2,c3⟩:=h.rows i l0 hi;refine⟨hv1,c1,c2.mono hn fun b hb=>⟨tL b (low i l0 hv1 hi c1 b hb) (fun e=>c3 b hb (by rw[e];rfl)) fun e=> ?_,rfl⟩,c3⟩;exact h.apart i j hv1 hv b q (List.getElem?_eq_some_iff.1 hi).1 hj c1 hh hb e
 ·rw[List.length_set] at h1 h2;by_cases q:i=j
  ·subst q;rw[List.getElem?_set_self Jt] at e1;cases e1;rw[List.getElem?_set_ne hne] at e2;intro q3;rcases hblk b e3 with k'|k'
   ·exact h.apart i k hv hk b hne h1 h2 hh e2 k' q3
   ·have:=low k _ hk (List.getElem?_eq_getElem h2) e2 b q3;omega
  ·rw[List.getElem?_set_ne (Ne.symm q)] at e1;by_cases q2:k=j
   ·subst q2;rw[List.getElem?_set_self Jt] at e2;cases e2;intro q3;rcases hblk b q3 with k'|k'
    ·exact h.apart i k hi hv b hne h1 h2 e1 hh e3 k'
    ·have:=low i _ hi (List.getElem?_eq_getElem h1) e1 b e3;omega
   ·rw[List.getElem?_set_ne (Ne.symm q2)] at e2;exact h.apart i k hi hk b hne h1 h2 e1 e2 e3
theorem Km{P:Program}(w:World)(base:Nat)(t ty e:TypeId)(i:TypeInfo)(z:Value)(size bytes:Nat)(ht:P.underlying t=some (.slice e))(hi:P.info? e=some i)(hz:i.zero=some z)
 (hsize:i.size=size)(hby:i.bytes=bytes)(hzs:z.cells.size=size)(hsz:0<size)
 (v:Value)(n:Nat)(xs:List Value)(hown:w.ownsRow base e size v n xs)
 (a:Addr)(m c:Nat)(news:List Value)(hl:news.length=m*size)(hnews:∀j u,news[j]? =some u->w.cell? (a.add j)=some u)(h1:∀u∈news,u.oneCell'=true)
 (hm:0<m)(h63:n+m<=maxLen)(hbytes:(n+m)*bytes<=140737488355328)(hbase:base<=w.heap.size):
 ∃g cap w',(Builtin.append_ #[t,t] ty #[v,.slice (some a) m c]).run P w=.ok (.slice (some ⟨g,0,none⟩) (n+m) cap) w'/\w'.ownsRow base e size (.slice (some ⟨g,0,none⟩) (n+m) cap) (n+m) (xs++news)/\w.grownBy w' v.ownBlock/\
  (v.ownBlock=some g\/g=w.heap.size)/\g<w'.heap.size/\qw w w':=by
 obtain⟨g,cap,w',hr,h2,h3,h4,h5⟩:=run_append_lies (P:=P) w t ty base e i z size bytes ht hi hz hsize hby hzs hsz v n xs hown a m c news hl hnews h1 hm h63 hbytes hbase w.heap.size rfl;refine⟨g,cap,w',hr,h2,h3,h4,h5,fun b cc tt fz hb=> ?_⟩;by_cases q:v.ownBlock=some b
 rotate_left
 ·exact⟨cc,(h3.block b (lt_of_some hb) fun e=>q e.symm).trans hb,rfl⟩
 rcases hown.2 with⟨rfl,_⟩|⟨g0,cap0,cur,rfl,hbg,hg,hnc,hcm,hcs,htake⟩
 ·cases q
 cases q;rw[hg] at hb;cases hb;subst hsize;by_cases hroom:n+m<=cap0
 ·have hr':=run_append_roomF (P:=P) w t ty e i ht hi g0 n cap0 cc (0,0) hg (Nat.zero_le _) a m c news hl hnews h1 hroom (by rw[hl,hcs,<-Nat.add_mul];exact Nat.mul_le_mul_right _ hroom);rw[hr] at hr';injection hr' with _ hw;subst hw;refine⟨_,setRow_heap w g0 cc _ e _ hg,?_⟩
  have hmul:n*i.size+m*i.size<=cap0*i.size:=by rw[<-Nat.add_mul];exact Nat.mul_le_mul_right _ hroom
  simp only[List.size_toArray,List.length_append,List.length_take,List.length_drop,Array.length_toList];omega
 ·have holds:∀j u,xs[j]? =some u->w.cell? ((⟨g0,0,none⟩:Addr).add j)=some u:=hown.cells (g:=g0) rfl;have hr':=run_append_grow (P:=P) w t ty e i z ht hi hz ⟨g0,0,none⟩ n cap0 xs hown.1 holds a m c news hl hnews (by omega) (by simp only[maxLen] at h63;omega) (growslice_fits (by simp only[maxLen] at h63;omega) (by rw[hby];exact hbytes));rw[hr] at hr';injection hr' with _ hw;subst hw;exact⟨cc,(Lib.alloc_old w.drew _ _ (lt_of_some hg)).trans hg,rfl⟩
theorem aiD(w:World)(σ:Nat->Nat)(B:Nat)(e:TypeId):Cw w σ B e (.slice none 0 0) []:=
 ⟨⟨[],⟨rfl,.inl ⟨rfl,rfl⟩⟩,fun i d hd=>by cases hd⟩,fun b hb=>by cases hb⟩
theorem aiE{P:Program}{w w0:World}{σ σ0:Nat->Nat}{B g n cap:Nat}{eo e ty t:TypeId}{hs:List Value}{rs:List (List aj)}{i:TypeInfo}{bytes:Nat}(ht:P.underlying t=some (.slice eo))(hi:P.info? eo=some i)(hz:i.zero=some (.slice none 0 0))
 (hsize:i.size=1)(hby:i.bytes=bytes)(h:j6 w σ B eo e (.slice (some ⟨g,0,none⟩) n cap) hs rs)(hn:hs.length=n)(hr:rs.length=n)(hbz:bytes<=1024)(hn2:n<=1048576)
 (ad:Addr)(c:Nat)(hc:w.cell? ad=some (.slice none 0 0))(had:ad.add 0=ad)(hl:∀b,b<w.heap.size\/σ b=0)(hB:B<=w.heap.size):
 ∃g' cap' w',(Builtin.append_ #[t,t] ty #[.slice (some ⟨g,0,none⟩) n cap,.slice (some ad) 1 c]).run P w=.ok (.slice (some ⟨g',0,none⟩) (n+1) cap') w'/\
  j6 w' σ B eo e (.slice (some ⟨g',0,none⟩) (n+1) cap') (hs++[.slice none 0 0]) (rs++[[]])/\eG w σ w' σ/\(∀b,b<w.heap.size->b≠g->w'.heap[b]? =w.heap[b]?)/\w.heap.size<=w'.heap.size/\w'.os=w.os/\w'.output=w.output:=by
 subst hn
 obtain⟨g',cap',w',q1,q2,q3,q4,q5,q6⟩:=Km (P:=P) w B t ty eo i (.slice none 0 0) 1 bytes ht hi hz hsize hby rfl (by omega) _ _ _ h.own ad 1 c [.slice none 0 0] rfl (fun j u hu=>by
  match j,hu with
  |0,hu=>cases hu;rw[had];exact hc
  |j+1,hu=>cases hu) (fun u hu=>by rw[List.mem_singleton.1 hu];rfl) (by omega) (by unfold maxLen;omega) (by
   have:(hs.length+1)*bytes<=(1048576+1)*1024:=Nat.mul_le_mul (by omega) hbz
   omega) hB
 have hg0:σ g=0:=h.free g rfl;have hold:∀b,b<w.heap.size->b≠g->w'.heap[b]? =w.heap[b]? :=fun b hb hne=>q3.block b hb fun e=>hne (Option.some.inj e);have hnr:eG w σ w' σ:=LJ q6 fun b hb=>hold b ((hl b).elim id fun e=>absurd e hb) fun e=>hb (by rw[e];exact hg0);refine⟨g',cap',w',q1,?_,hnr,hold,q3.size,q3.os,q3.output⟩;have hgl:g<w.heap.size:=(h.own.lt g rfl).2;have q4':g'=g\/g'=w.heap.size:=q4.elim (fun e=>.inl (Option.some.inj e).symm) .inr;refine⟨by rw[List.length_append];exact q2,fun b hb=> ?_,fun j l hj=> ?_,fun a b ha hb x hne h1 h2 e1 e2 e3=> ?_⟩
 ·cases hb;rcases q4' with rfl|rfl
  ·exact hg0
  ·exact(hl _).elim (fun h=>absurd h (Nat.lt_irrefl _)) id
 ·by_cases hjr:j<rs.length
  ·rw[List.getElem?_append_left hjr] at hj;obtain⟨hv,a1,a2,a3⟩:=h.rows j l hj;obtain⟨xs,ho,_⟩:=a2.own;refine⟨hv,by rw[List.getElem?_append_left (List.getElem?_eq_some_iff.1 a1).1];exact a1,a2.mono hnr fun b hb=>⟨hold b (ho.lt b hb).2 fun e=>a3 b hb (by rw[e];rfl),rfl⟩,fun b hb q=> ?_⟩;cases q;rcases q4' with rfl|rfl
   ·exact a3 _ hb rfl
   ·exact absurd (ho.lt _ hb).2 (Nat.lt_irrefl _)
  ·have hj0:j=rs.length:=by
    have:=(List.getElem?_eq_some_iff.1 hj).1;simp at this;omega
   subst hj0;rw[List.getElem?_append_right (Nat.le_refl _),Nat.sub_self] at hj;cases hj;exact⟨.slice none 0 0,by rw[List.getElem?_append_right (by omega),hr,Nat.sub_self];rfl,aiD _ _ _ _,fun b hb=>by cases hb⟩
 ·by_cases ha':a<rs.length
  ·by_cases hb':b<rs.length
   ·rw[List.getElem?_append_left (by omega)] at e1 e2;exact h.apart a b ha hb x hne ha' hb' e1 e2 e3
   ·have:b=rs.length:=by simp at h2;omega
    subst this;rw[List.getElem?_append_right (by omega),hr,Nat.sub_self] at e2;cases e2;intro q;cases q
  ·have:a=rs.length:=by simp at h1;omega
   subst this;rw[List.getElem?_append_right (by omega),hr,Nat.sub_self] at e1;cases e1;cases e3
theorem acs{w:World}(o:Go.Obj){b j:Nat}{u:Value}(h:w.cell? ⟨b,j,none⟩=some u):(w.alloc o).cell? ⟨b,j,none⟩=some u:=by
 cases hb:w.heap[b]? with
 |none=>simp[World.cell?,hb] at h
 |some o'=>
  rw[<-h];exact World.cell?_of_block (Lib.alloc_old w o b (lt_of_some hb))
theorem Pq{w:World}{σ:Nat->Nat}{B g cap n:Nat}{eo e:TypeId}{hs:List Value}{rs:List (List aj)}(h:j6 w σ B eo e (.slice (some ⟨g,0,none⟩) n cap) hs rs)(j:Nat):w.frozen? ⟨g,j,none⟩=false:=by
 rcases h.own.2 with⟨h1,_⟩|⟨g0,cap0,cur,e0,_,hg,_⟩
 ·cases h1
 ·simp only[Value.slice.injEq,Option.some.injEq,Addr.mk.injEq,and_true] at e0;obtain⟨rfl,_,rfl⟩:=e0;exact Lib.frozen_of_heap hg j
theorem kL{w:World}{g j b:Nat}{v:Value}(h:b≠g):(w.setCell ⟨g,j,none⟩ v).heap[b]? =w.heap[b]? :=by
 simp[World.setCell,Array.getElem?_modify,Ne.symm h]
theorem Ng{w:World}{g j:Nat}{v:Value}{cur:Array Value}{t:TypeId}{fz:Nat×Nat}(h:w.heap[g]? =some (.cells cur t fz)):(w.setCell ⟨g,j,none⟩ v).heap[g]? =some (.cells (cur.setIfInBounds j v) t fz):=by
 simp[World.setCell,Array.getElem?_modify,h]
theorem aiF{w:World}{σ:Nat->Nat}{B g n cap:Nat}{eo e:TypeId}{hs:List Value}{hv:Value}{rs:List (List aj)}(h:j6 w σ B eo e (.slice (some ⟨g,0,none⟩) (n+1) cap) (hs++[hv]) rs)(hn:hs.length=n)(hr:rs.length<=n):
 j6 w σ B eo e (.slice (some ⟨g,0,none⟩) n cap) hs rs:=by
 refine⟨?_,h.free,fun j l' hj=> ?_,fun i j hi hj b hne h1 h2 e1 e2=> ?_⟩
 ·obtain⟨o1,o2⟩:=h.own;refine⟨by rw[hn];omega,?_⟩;rcases o2 with⟨o2,_⟩|⟨g0,cap0,cur,e0,hb,hg,hnc,hm,hsz,ht⟩
  ·cases o2
  ·simp only[Value.slice.injEq,Option.some.injEq,Addr.mk.injEq,and_true] at e0;obtain⟨rfl,_,rfl⟩:=e0;refine .inr ⟨g,cap,cur,by rw[hn],hb,hg,?_,hm,hsz,?_⟩
   ·rw[List.length_append] at hnc;omega
   ·have:=congrArg (List.take (hs.length*1)) ht;rw[List.take_take,List.length_append,Nat.min_eq_left (by simp)] at this;rw[this,Nat.mul_one,List.take_append_of_le_length (Nat.le_refl _),List.take_length]
 ·have hjl:=(List.getElem?_eq_some_iff.1 hj).1;obtain⟨hv',a1,a2,a3⟩:=h.rows j l' hj;rw[List.getElem?_append_left (by omega)] at a1;exact⟨hv',a1,a2,a3⟩
 ·have i1:=(List.getElem?_eq_some_iff.1 e1).1;have j1:=(List.getElem?_eq_some_iff.1 e2).1;exact h.apart i j hi hj b hne h1 h2 (by rw[List.getElem?_append_left i1];exact e1) (by rw[List.getElem?_append_left j1];exact e2)
theorem WI{W:World}{σ:Nat->Nat}{B:Nat}{e:TypeId}{v:Value}{l:List aj}{ys:List Value}{x:aj}{lv:Value}
 (hown:W.ownsRow B e 2 v (l.length+1) (ys++[.string ⟨x.aG.toArray⟩,lv]))(hys:ys.length=l.length*2)
 (hy:∀(i:Nat) (d:D),(l.map aj.enc).flatten[i]? =some d->∃u,ys[i]? =some u/\dJ W σ d u)(hx:dJ W σ (.sl (x.ah.map aj.enc)) lv)(hf:∀b,v.ownBlock=some b->σ b=0):Cw W σ B e v (l++[x]):=by
 have hfl:(l.map aj.enc).flatten.length=l.length*2:=by
  have:=j4 (l.map aj.enc) 2 (Eu l);simpa using this
 have e1:([x].map aj.enc).flatten=[.s x.aG,.sl (x.ah.map aj.enc)]:=by
  rw[List.map_singleton,List.flatten_singleton,aj.aQ]
 refine⟨⟨_,by rw[List.length_append,List.length_singleton];exact hown,fun i d hd=> ?_⟩,hf⟩;rw[List.map_append,List.flatten_append,e1] at hd;by_cases hi:i<l.length*2
 ·rw[List.getElem?_append_left (by omega)] at hd;obtain⟨u,hu,hr⟩:=hy i d hd;exact⟨u,by rw[List.getElem?_append_left (by omega)];exact hu,hr⟩
 ·rw[List.getElem?_append_right (by omega),hfl] at hd
  have hw:(ys++[Value.string ⟨x.aG.toArray⟩,lv])[i]? =[Value.string ⟨x.aG.toArray⟩,lv][i-l.length*2]? :=by
   rw[List.getElem?_append_right (by omega),hys]
  rw[hw];generalize i-l.length*2=k at hd
  match k,hd with
  |0,hd=>simp at hd;subst hd;exact⟨_,rfl,.s _⟩
  |1,hd=>simp at hd;subst hd;exact⟨_,rfl,hx⟩
  |k+2,hd=>simp at hd
theorem alk{w w2:World}{σ:Nat->Nat}{B g cap j:Nat}{eo e:TypeId}{hs:List Value}{rs:List (List aj)}{l:List aj}{hv hv':Value}{x:aj}{lv:Value}{ys:List Value}(hl:∀b,b<w.heap.size\/σ b=0)
 (hst:j6 w σ B eo e (.slice (some ⟨g,0,none⟩) hs.length cap) hs rs)(hjl:rs[j]? =some l)(hh:hs[j]? =some hv)
 (hown:w2.ownsRow B e 2 hv' (l.length+1) (ys++[.string ⟨x.aG.toArray⟩,lv]))(hys:ys.length=l.length*2)
 (hy:∀(i:Nat) (d:D),(l.map aj.enc).flatten[i]? =some d->∃u,ys[i]? =some u/\dJ w σ d u)(hx:dJ w σ (.sl (x.ah.map aj.enc)) lv)
 (h12:∀b,b<w.heap.size->hv.ownBlock≠some b->w2.heap[b]? =w.heap[b]?)(hsm:qw w w2)(hblk:∀b,hv'.ownBlock=some b->hv.ownBlock=some b\/w.heap.size<=b):
 eG w σ (w2.setCell ⟨g,j,none⟩ hv') σ/\j6 (w2.setCell ⟨g,j,none⟩ hv') σ B eo e (.slice (some ⟨g,0,none⟩) hs.length cap) (hs.set j hv') (rs.set j (l++[x]))/\
  ∀b,b<w.heap.size->b≠g->hv.ownBlock≠some b->(w2.setCell ⟨g,j,none⟩ hv').heap[b]? =w.heap[b]? :=by
 obtain⟨hv0,a1,a2,a3⟩:=hst.rows j l hjl;rw[hh] at a1;cases a1;have hg0:σ g=0:=hst.free g rfl;have Kn:hv.ownBlock≠some g:=fun q=>a3 g q rfl
 obtain⟨cur,hg⟩:∃cur,w.heap[g]? =some (.cells cur eo (0,0)):=by
  rcases hst.own.2 with⟨o2,_⟩|⟨g0,cap0,cur,e0,hb,hg,_⟩
  ·cases o2
  ·cases e0;exact⟨cur,hg⟩
 have hgl:=lt_of_some hg;have hg2:=(h12 g hgl Kn).trans hg;have tL:∀b,b<w.heap.size->b≠g->hv.ownBlock≠some b->(w2.setCell ⟨g,j,none⟩ hv').heap[b]? =w.heap[b]? :=fun b h1 h2 h3=>(kL h2).trans (h12 b h1 h3)
 have zx:eG w σ (w2.setCell ⟨g,j,none⟩ hv') σ:=LJ (hsm.trans (qw.setCell _ _ _ rfl)) fun b hb=>
  tL b ((hl b).resolve_right hb) (fun q=>hb (by rw[q];exact hg0)) fun q=>hb (a2.free b q)
 have hne:∀b,hv'.ownBlock=some b->b≠g:=fun b hb q=>by
  subst q;rcases hblk b hb with k|k
  ·exact Kn k
  ·omega
 have hrow:Cw (w2.setCell ⟨g,j,none⟩ hv') σ B e hv' (l++[x]):=WI (Fq hown fun b hb=>kL (hne b hb)) hys (fun i d hd=>by
  obtain⟨u,hu,hr⟩:=hy i d hd
  exact⟨u,hu,hr.mono zx⟩) (hx.mono zx) fun b hb=>by
   rcases hblk b hb with k|k
   ·exact a2.free b k
   ·exact(hl b).resolve_left (by omega)
 exact⟨zx,j6.put hl hst (List.getElem?_eq_some_iff.1 hjl).1 hh zx hg (Ng hg2) tL hrow hblk,tL⟩
theorem WJ{w:World}{σ:Nat->Nat}{B g g1 cap jB j:Nat}{eo e:TypeId}{hs:List Value}{rs:List (List aj)}{l:List aj}{x0 x:aj}{lv:Value}(hl:∀b,b<w.heap.size\/σ b=0)
 (hst:j6 w σ B eo e (.slice (some ⟨g,0,none⟩) hs.length cap) hs rs)(hjl:rs[j]? =some (l++[x0]))(hh:hs[j]? =some (.slice (some ⟨g1,0,none⟩) (l.length+1) jB))(hx:dJ w σ (.sl (x.ah.map aj.enc)) lv):
 eG w σ ((w.setCell ⟨g1,l.length*2,none⟩ (.string ⟨x.aG.toArray⟩)).setCell ⟨g1,l.length*2+1,none⟩ lv) σ/\
  j6 ((w.setCell ⟨g1,l.length*2,none⟩ (.string ⟨x.aG.toArray⟩)).setCell ⟨g1,l.length*2+1,none⟩ lv) σ B eo e (.slice (some ⟨g,0,none⟩) hs.length cap) hs (rs.set j (l++[x]))/\
  ∀b,b≠g1->((w.setCell ⟨g1,l.length*2,none⟩ (.string ⟨x.aG.toArray⟩)).setCell ⟨g1,l.length*2+1,none⟩ lv).heap[b]? =w.heap[b]? :=by
 obtain⟨W,hW⟩:∃W,W=(w.setCell ⟨g1,l.length*2,none⟩ (.string ⟨x.aG.toArray⟩)).setCell ⟨g1,l.length*2+1,none⟩ lv:=⟨_,rfl⟩;obtain⟨hv0,a1,a2,a3⟩:=hst.rows j _ hjl;rw[hh] at a1;cases a1;have hg0:σ g=0:=hst.free g rfl;have Kn:g≠g1:=fun q=>a3 g1 rfl (by rw[q];rfl)
 have UK:∀b,b≠g1->W.heap[b]? =w.heap[b]? :=fun b hb=>by rw[hW,kL hb,kL hb]
 obtain⟨cur,hg,hcur⟩:∃cur,w.heap[g]? =some (.cells cur eo (0,0))/\cur.toList.take hs.length=hs:=by
  rcases hst.own.2 with⟨o2,_⟩|⟨g0,cap0,cur,e0,hb,hg,_,_,_,ht⟩
  ·cases o2
  ·cases e0;exact⟨cur,hg,by rw[Nat.mul_one] at ht;exact ht⟩
 have hjh:=(List.getElem?_eq_some_iff.1 hh).1
 have hself:cur.setIfInBounds j (.slice (some ⟨g1,0,none⟩) (l.length+1) jB)=cur:=by
  have h1:cur.toList[j]? =some (.slice (some ⟨g1,0,none⟩) (l.length+1) jB):=by
   have q:(cur.toList.take hs.length)[j]? =hs[j]? :=by rw[hcur]
   rw[<-hh,<-q,List.getElem?_take_of_lt hjh]
  obtain⟨h2,h3⟩:=List.getElem?_eq_some_iff.1 h1;refine Array.ext' ?_;rw[Array.toList_setIfInBounds,<-h3,List.set_getElem_self]
 have anj:hs.set j (.slice (some ⟨g1,0,none⟩) (l.length+1) jB)=hs:=by
  obtain⟨h2,h3⟩:=List.getElem?_eq_some_iff.1 hh;rw[<-h3,List.set_getElem_self]
 have hsame:qw w W:=by
  rw[hW];exact(qw.setCell _ _ _ rfl).trans (qw.setCell _ _ _ rfl)
 have zx:eG w σ W σ:=LJ hsame fun b hb=>UK b fun q=>hb (a2.free b (by rw[q];rfl));obtain⟨⟨xs,ho,hxs⟩,hf⟩:=a2;obtain⟨ho1,ho2⟩:=ho;rw[List.length_append,List.length_singleton] at ho1 ho2
 obtain⟨qO,hb1,hg1,hc1,hc2,hc3,ht1⟩:∃qO,B<=g1/\w.heap[g1]? =some (.cells qO e (0,0))/\l.length+1<=jB/\jB<=maxLen/\qO.size=jB*2/\qO.toList.take ((l.length+1)*2)=xs:=by
  rcases ho2 with⟨o2,_⟩|⟨g0,cap0,cur,e0,q⟩
  ·cases o2
  ·simp only[Value.slice.injEq,Option.some.injEq,Addr.mk.injEq,and_true] at e0;obtain⟨rfl,_,rfl⟩:=e0;exact⟨cur,q⟩
 have hW1:W.heap[g1]? =some (.cells ((qO.setIfInBounds (l.length*2) (.string ⟨x.aG.toArray⟩)).setIfInBounds (l.length*2+1) lv) e (0,0)):=by
  rw[hW];exact Ng (Ng hg1)
 have hrow:Cw W σ B e (.slice (some ⟨g1,0,none⟩) (l.length+1) jB) (l++[x]):=by
  have hys:(xs.take (l.length*2)).length=l.length*2:=by rw[List.length_take];omega
  refine WI (ys:=xs.take (l.length*2)) (lv:=lv) ⟨by simp only[List.length_append,hys,List.length_cons,List.length_nil];omega,.inr ⟨g1,jB,_,rfl,hb1,hW1,hc1,hc2,by simpa using hc3,?_⟩⟩ hys (fun i d hd=> ?_) (hx.mono zx) hf
  ·rw[Array.toList_setIfInBounds,Array.toList_setIfInBounds,List.take_set,List.take_set,ht1];refine List.ext_getElem? fun i=> ?_;rcases Nat.lt_trichotomy i (l.length*2) with h|h|h
   ·rw[List.getElem?_set_ne (by omega),List.getElem?_set_ne (by omega),List.getElem?_append_left (by omega),List.getElem?_take_of_lt h]
   ·subst h;rw[List.getElem?_set_ne (by omega),List.getElem?_set_self (by omega),List.getElem?_append_right (by omega),hys,Nat.sub_self];rfl
   ·rw[List.getElem?_append_right (by omega),hys];by_cases h2:i=l.length*2+1
    ·subst h2;rw[List.getElem?_set_self (by rw[List.length_set];omega),Nat.add_sub_cancel_left];rfl
    ·rw[List.getElem?_eq_none (by simp only[List.length_set];omega),List.getElem?_eq_none (by simp only[List.length_cons,List.length_nil];omega)]
  ·have hfl:(l.map aj.enc).flatten.length=l.length*2:=by
    have:=j4 (l.map aj.enc) 2 (Eu l);simpa using this
   have hi:=(List.getElem?_eq_some_iff.1 hd).1;obtain⟨u,hu,hr⟩:=hxs i d (by rw[List.map_append,List.flatten_append,List.getElem?_append_left hi];exact hd);exact⟨u,by rw[List.getElem?_take_of_lt (by omega)];exact hu,hr.mono zx⟩
 rw[<-hW];refine⟨zx,?_,UK⟩;have:=j6.put (hv':=.slice (some ⟨g1,0,none⟩) (l.length+1) jB) hl hst (List.getElem?_eq_some_iff.1 hjl).1 hh zx hg (by rw[hself];exact(UK g Kn).trans hg) (fun b _ _ h3=>UK b fun q=>h3 (by rw[q];rfl)) hrow (fun b hb=>.inl hb);rw[anj] at this;exact this
theorem apv{wq:World}{u v:Value}{T:TypeId}:∀j x,([u,v]:List Value)[j]? =some x->(wq.drew.alloc (.cells #[u,v] T)).cell? ((⟨wq.heap.size,0,none⟩:Addr).add j)=some x:=by
 intro j x hx;exact World.news_of_block (heap_alloc_new wq.drew (.cells #[u,v] T)) j x hx
theorem afp{w W:World}{σ σ':Nat->Nat}(h:Grow w σ W σ'):Grow w σ W.drew σ':=⟨h.size,h.os,h.output,h.old,h.live⟩
theorem Ev{w wq W:World}{σ σ1:Nat->Nat}{B:Nat}(hg:Grow w σ wq σ1)(hsz:wq.heap.size<=W.heap.size)(hos:W.os=wq.os)(hout:W.output=wq.output)(hlow:∀b,b<B->W.heap[b]? =wq.heap[b]?)(hB:w.heap.size<=B):Grow w σ W σ1:=
 ⟨Nat.le_trans hg.size hsz,hos.trans hg.os,hout.trans hg.output,fun b hb=>⟨(hlow b (Nat.lt_of_lt_of_le hb hB)).trans (hg.old b hb).1,(hg.old b hb).2⟩,fun b=>(hg.live b).elim (fun h=>.inl (Nat.lt_of_lt_of_le h hsz)) .inr⟩
theorem Ew{P:Program}{wq:World}{σ:Nat->Nat}{B g cap j n:Nat}{eo e t:TypeId}(ty:TypeId){hs:List Value}{rs:List (List aj)}{y:List aj}{ya:Option Addr}{xK:Nat}{i:TypeInfo}(ht:P.underlying t=some (.slice e))(hi:P.info? e=some i)
 (hz:i.zero=some (.agg #[.string ⟨#[]⟩,.slice none 0 0]))(hsize:i.size=2)(hby:i.bytes=40)(hl:∀b,b<wq.heap.size\/σ b=0)(hB:B<=wq.heap.size)(hst:j6 wq σ B eo e (.slice (some ⟨g,0,none⟩) n cap) hs rs)(hn:hs.length=n)
 (hjl:rs[j]? =some y)(hh:hs[j]? =some (.slice ya y.length xK))(hy:y.length<=1048576)(x:aj){u lv:Value}(hu: .string ⟨x.aG.toArray⟩=u)(hx:dJ wq σ (.sl (x.ah.map aj.enc)) lv)(h1:lv.oneCell'=true)(T:TypeId):
 ∃g1 jB w2,(Builtin.append_ #[t,t] ty #[.slice ya y.length xK,.slice (some ⟨wq.heap.size,0,none⟩) 1 1]).run P (wq.drew.alloc (.cells #[u,lv] T))=.ok (.slice (some ⟨g1,0,none⟩) (y.length+1) jB) w2/\
  w2.cell? ⟨g,j,none⟩=some (.slice ya y.length xK)/\w2.frozen? ⟨g,j,none⟩=false/\g1≠g/\(∃qO:Array Value,w2.heap[g1]? =some (.cells qO e (0,0))/\(y.length+1)*2<=qO.size)/\y.length+1<=jB/\
  eG wq σ (w2.setCell ⟨g,j,none⟩ (.slice (some ⟨g1,0,none⟩) (y.length+1) jB)) σ/\
  j6 (w2.setCell ⟨g,j,none⟩ (.slice (some ⟨g1,0,none⟩) (y.length+1) jB)) σ B eo e (.slice (some ⟨g,0,none⟩) n cap) (hs.set j (.slice (some ⟨g1,0,none⟩) (y.length+1) jB)) (rs.set j (y++[x]))/\
  wq.heap.size<=w2.heap.size/\w2.os=wq.os/\w2.output=wq.output/\B<=g/\B<=g1/\∀b,b<B->w2.heap[b]? =wq.heap[b]? :=by
 subst hn hu;obtain⟨hv0,a1,a2,a3⟩:=hst.rows j y hjl;rw[hh] at a1;cases a1;have hrow:=a2;obtain⟨⟨ys,hown,hrep⟩,hfree⟩:=a2;have hyb:∀b,(Value.slice ya y.length xK).ownBlock=some b->B<=b/\b<wq.heap.size:=fun b hb=>hown.lt b hb;have Kn:(Value.slice ya y.length xK).ownBlock≠some g:=fun q=>a3 g q rfl;have hgl:B<=g/\g<wq.heap.size:=hst.own.lt g rfl;have hown1:(wq.drew.alloc (.cells #[.string ⟨x.aG.toArray⟩,lv] T)).ownsRow B e 2 (.slice ya y.length xK) y.length ys:=Fq hown fun b hb=>Lib.alloc_old wq.drew _ b (hyb b hb).2
 obtain⟨g1,jB,w2,q1,q2,q3,q4,q5,q6⟩:=Km (P:=P) (wq.drew.alloc (.cells #[.string ⟨x.aG.toArray⟩,lv] T)) B t ty e i _ 2 40 ht hi hz hsize hby rfl (by omega) _ _ _ hown1 ⟨wq.heap.size,0,none⟩ 1 1 [.string ⟨x.aG.toArray⟩,lv] rfl apv (fun u hu=>by
  rcases List.mem_cons.1 hu with rfl|hu
  ·rfl
  ·rw[List.mem_singleton.1 hu];exact h1) (by omega) (by unfold maxLen;omega) (by omega) (by
   rw[show(wq.drew.alloc (.cells #[.string ⟨x.aG.toArray⟩,lv] T)).heap.size=wq.heap.size+1 by simp];omega)
 have hsz1:(wq.drew.alloc (.cells #[.string ⟨x.aG.toArray⟩,lv] T)).heap.size=wq.heap.size+1:=by simp
 have h12:∀b,b<wq.heap.size->(Value.slice ya y.length xK).ownBlock≠some b->w2.heap[b]? =wq.heap[b]? :=fun b h1 h2=>(q3.block b (by omega) fun e=>h2 e.symm).trans (Lib.alloc_old wq.drew _ b h1);have hsm:qw wq w2:=qw.trans (qw.alloc wq.drew _) q6
 have hblk:∀b,(Value.slice (some ⟨g1,0,none⟩) (y.length+1) jB).ownBlock=some b->(Value.slice ya y.length xK).ownBlock=some b\/wq.heap.size<=b:=fun b hb=>by
  cases hb;rcases q4 with h|h
  ·exact .inl h
  ·right;show wq.heap.size<=g1;omega
 have hg1:g1≠g:=fun q=>by
  rcases hblk g1 rfl with h|h
  ·rw[q] at h;exact Kn h
  ·omega
 have hB1:B<=g1:=by
  rcases hblk g1 rfl with h|h
  ·exact(hyb g1 h).1
  ·omega
 obtain⟨n1,n2,n3⟩:=alk hl hst hjl hh q2 hown.1 hrep hx h12 hsm hblk
 obtain⟨qO,c1,c2,c3⟩:∃qO:Array Value,w2.heap[g1]? =some (.cells qO e (0,0))/\(y.length+1)*2<=qO.size/\y.length+1<=jB:=by
  rcases q2.2 with⟨h,_⟩|⟨g0,cap0,cur,e0,_,hg,hc1,_,hc3,_⟩
  ·cases h
  ·cases e0;exact⟨cur,hg,by rw[hc3];exact Nat.mul_le_mul_right _ hc1,hc1⟩
 have hkg:=h12 g hgl.2 Kn;refine⟨g1,jB,w2,q1,?_,?_,hg1,⟨qO,c1,c2⟩,c3,n1,n2,?_,q3.os,q3.output,hgl.1,hB1,fun b hb=>h12 b (by omega) fun q=> ?_⟩
 ·have hj:=hst.own.cells (g:=g) rfl j _ hh;rw[show(⟨g,0,none⟩:Addr).add j=⟨g,j,none⟩ by unfold Addr.add;split<;>simp_all] at hj;rw[<-hj];exact World.cell?_of_block hkg
 ·exact(World.frozen?_of_block hkg).trans (Pq hst j)
 ·have:=q3.size;omega
 ·have:=(hyb b q).1;omega
theorem WK{w wq:World}{σ σ1 σ2:Nat->Nat}{B:Nat}(hg:Grow w σ wq σ1)(h:∀b,b<B->σ2 b=σ1 b)(hl:∀b,b<wq.heap.size\/σ2 b=0)(hB:w.heap.size<=B):Grow w σ wq σ2:=
 ⟨hg.size,hg.os,hg.output,fun b hb=>⟨(hg.old b hb).1,(h b (Nat.lt_of_lt_of_le hb hB)).trans (hg.old b hb).2⟩,hl⟩
theorem wP{α:Type}(l:List α)(a b:α)(n:Nat)(h:l.length=n):(l++[a]).set n b=l++[b]:=by
 subst h
 simp
theorem alm{w:World}{σ:Nat->Nat}{B g cap n:Nat}{eo e:TypeId}{hs:List Value}{rs:List (List aj)}(h:j6 w σ B eo e (.slice (some ⟨g,0,none⟩) n cap) hs rs):n<=cap:=by
 rcases h.own.2 with⟨h1,_⟩|⟨g0,cap0,cur,e0,_,hg,h2,_⟩
 ·cases h1
 ·simp only[Value.slice.injEq,Option.some.injEq,Addr.mk.injEq,and_true] at e0;obtain⟨_,rfl,rfl⟩:=e0;exact h2
theorem set_comm{w:World}{g g1 i j:Nat}{u v:Value}(h:g≠g1):(w.setCell ⟨g1,i,none⟩ u).setCell ⟨g,j,none⟩ v=(w.setCell ⟨g,j,none⟩ v).setCell ⟨g1,i,none⟩ u:=by
 have hh:((w.setCell ⟨g1,i,none⟩ u).setCell ⟨g,j,none⟩ v).heap=((w.setCell ⟨g,j,none⟩ v).setCell ⟨g1,i,none⟩ u).heap:=by
  refine Array.ext_getElem? fun b=> ?_;by_cases h1:b=g
  ·subst h1;rw[kL (w:=w.setCell _ _) h];simp[World.setCell,Array.getElem?_modify,Ne.symm h]
  ·rw[kL h1];by_cases h2:b=g1
   ·subst h2;simp[World.setCell,Array.getElem?_modify,h]
   ·rw[kL h2,kL h2,kL h1]
 unfold World.setCell at hh ⊢;simp only at hh ⊢;rw[hh]
theorem Pt{p:UInt8->Bool}:∀(n:Nat)(l:List UInt8),(∀a∈l.take n,p a=true)->(l.length=n\/∃a,l[n]? =some a/\p a=false)->l.takeWhile p=l.take n/\l.dropWhile p=l.drop n
 |0,l,_,h=>by
  rcases h with h|⟨a,h1,h2⟩
  ·have:=List.eq_nil_of_length_eq_zero h;subst this;exact⟨rfl,rfl⟩
  ·cases l with
   |nil=>simp at h1
   |cons b l=>
    simp at h1;subst h1;simp[List.takeWhile,List.dropWhile,h2]
 |n+1,l,ha,h=>by
  cases l with
  |nil=>
   rcases h with h|⟨a,h1,h2⟩
   ·simp at h
   ·simp at h1
  |cons b l=>
   have hb:p b=true:=ha b (by simp);have ih:=Pt n l (fun a hm=>ha a (by simp[hm])) (by simpa using h);simp[List.takeWhile,List.dropWhile,hb,ih.1,ih.2]
theorem aln(s:List UInt8)(i e:Nat):(⟨s.toArray⟩:ByteArray).extract i e=⟨((s.take e).drop i).toArray⟩:=by
 refine ByteArray.ext ?_;rw[ByteArray.data_extract];simp[List.extract_toArray,List.drop_take]
def qP(P:Program)(o:Oper)(ρ:Operand->Value)(w:World)(v:Value)(w':World):Prop:=(execOp ρ o).run P w=.ok (.value v) w'\/((execOp ρ o).run P w=.ok .skip w'/\v=undef)
theorem qP.wp{P:Program}{o:Oper}{a:Act}{w w':World}{v:Value}{K:Act->World->Prop}{Q:Exit->Act->World->Prop}(h:qP P o a.eval w v w')(hK:K (a.put o.dst v) w'):o.wp P a w K Q:=by
 unfold Oper.wp;rcases h with h|⟨h,rfl⟩
 ·rw[h];exact hK
 ·rw[h];exact hK
def vV(fF:List Nat)(i m:Nat):Nat:=if fF.contains i then m ||| 2^fF.idxOf i else m
def dH(P:Program)(fF:List Nat)(W:Nat->World)(K:Act->Prop):List Oper->List (List Nat)->Nat->Act->Prop
 |[],_,_,a=>K a
 |o::l,rs,i,a=>∃v,(∀m∈rs.headD [],qP P o a.eval (W m) v (W (vV fF i m)))/\dH P fF W K l rs.tail (i+1) (a.put o.dst v)
theorem aae{P:Program}{fF:List Nat}{W:Nat->World}{K:Act->Prop}:∀(l:List Oper)(rs:List (List Nat))(i:Nat)(a:Act),dH P fF W K l rs i a->
 ∃(vs:Nat->Value) (A:Nat->Act),A 0=a/\(∀j o,l[j]? =some o->A (j+1)=(A j).put o.dst (vs j)/\∀m∈rs.getD j [],qP P o (A j).eval (W m) (vs j) (W (vV fF (i+j) m)))/\K (A l.length)
 |[],rs,i,a,h=>⟨fun _=>undef,fun _=>a,rfl,fun j o hj=>by simp at hj,h⟩
 |o::l,rs,i,a,h=>by
  obtain⟨v,h1,h2⟩:=h;obtain⟨vs,A,k0,k1,k2⟩:=aae l rs.tail (i+1) _ h2;refine⟨fun j=>match j with|0=>v|j+1=>vs j,fun j=>match j with|0=>a|j+1=>A j,rfl,fun j o' hj=> ?_,k2⟩
  cases j with
  |zero=>
   simp only[List.getElem?_cons_zero,Option.some.injEq] at hj;subst hj;refine⟨k0,fun m hm=>h1 m ?_⟩
   cases rs with
   |nil=>simp at hm
   |cons r rs=>simpa using hm
  |succ j=>
   simp only[List.getElem?_cons_succ] at hj;obtain⟨q1,q2⟩:=k1 j o' hj;refine⟨q1,fun m hm=> ?_⟩
   have:=q2 m (by cases rs with
    |nil=>simp at hm
    |cons r rs=>simpa using hm)
   rw[show i+(j+1)=i+1+j by omega];exact this
def acu(R:Array Oper)(fF:List Nat)(i m:Nat):Bool:=
 (List.range fF.length).all fun k=>if m.testBit k then !((masks R.toList []).getD (fF.getD k 0) 0).testBit i&&fF.getD k 0 !=i&&(List.range fF.length).all (fun k'=> !((masks R.toList []).getD (fF.getD k 0) 0).testBit (fF.getD k' 0)||m.testBit k')
   else !((masks R.toList []).getD i 0).testBit (fF.getD k 0)
def aiG(R:Array Oper)(N:Nat)(fF:List Nat)(rng:List (List Nat)):Bool:=
 ((List.range R.size).all fun j=>
   (match R[j]? with
    |some o=>o.guard.isNone&&(match o.op with| .select .. =>false|_=>true)&&o.after.toList.all (fun e=> !Region.binds .any e||decide (e.on<j))&&(match o.dst with|some d=>decide (d<N)|none=>true)
    |none=>true)&&
   ((List.range j).all fun i=>
     match R[i]?,R[j]? with
     |some x,some y=>(((masks R.toList []).getD j 0).testBit i||x.apart R y)&&(x.dst.isNone||x.dst !=y.dst)
     |_,_=>true)&&
   ((List.range (2^fF.length)).all fun m=> !(acu R fF j m)||(rng.getD j []).contains m))&&
 (List.range fF.length).all fun k'=>decide (fF.getD k' 0<R.size)&&(List.range k').all fun k=>fF.getD k 0 !=fF.getD k' 0
section
variable {P:Program} {R:Array Oper} {N:Nat} {fF:List Nat} {rng:List (List Nat)} {W:Nat->World} {vs:Nat->Value} {A:Nat->Act}
structure UL(R:Array Oper)(N:Nat)(fF:List Nat)(rng:List (List Nat)):Prop where
 guard:∀(j:Nat)(o:Oper),R[j]? =some o->o.guard=none
 apw:∀(j:Nat)(o:Oper),R[j]? =some o->∀cs b,o.op≠ .select cs b
 edge:∀(i:Nat)(o:Oper)(e:Edge),R[i]? =some o->e∈o.after->Region.binds .any e=true->e.on<i
 dst:∀(i:Nat)(o:Oper),R[i]? =some o->∀d,o.dst=some d->d<N
 pair:∀(i j:Nat)(x y:Oper),i<j->R[i]? =some x->R[j]? =some y->((masks R.toList []).getD j 0).testBit i=true\/x.apart R y=true
 one:∀(i j:Nat)(x y:Oper)(d:Nat),R[i]? =some x->R[j]? =some y->x.dst=some d->y.dst=some d->i=j
 rng:∀(j m:Nat),j<R.size->m<2^fF.length->acu R fF j m=true->m∈rng.getD j []
 aiH:∀k,k<fF.length->fF.getD k 0<R.size
 apart:∀k k',k<k'->k'<fF.length->fF.getD k 0≠fF.getD k' 0
theorem aiI(h:aiG R N fF rng=true):UL R N fF rng:=by
 unfold aiG at h;rw[Bool.and_eq_true] at h;obtain⟨h1,h2⟩:=h;have H:∀(j:Nat)(o:Oper),R[j]? =some o->_:=fun j o ho=>List.all_eq_true.1 h1 j (List.mem_range.2 (Array.getElem?_eq_some_iff.1 ho).1)
 have H0:∀(j:Nat)(o:Oper),R[j]? =some o->o.guard.isNone=true/\(match o.op with| .select .. =>false|_=>true)=true/\o.after.toList.all (fun e=> !Region.binds .any e||decide (e.on<j))=true/\(match o.dst with|some d=>decide (d<N)|none=>true)=true:=by
  intro j o ho;have:=H j o ho;simp only[ho,Bool.and_eq_true] at this;exact⟨this.1.1.1.1.1,this.1.1.1.1.2,this.1.1.1.2,this.1.1.2⟩
 have H1:∀(i j:Nat)(x y:Oper),i<j->R[i]? =some x->R[j]? =some y->((((masks R.toList []).getD j 0).testBit i||x.apart R y)&&(x.dst.isNone||x.dst !=y.dst))=true:=by
  intro i j x y hij hx hy;have:=H j y hy;simp only[Bool.and_eq_true] at this;have:=List.all_eq_true.1 this.1.2 i (List.mem_range.2 hij);simp only[hx,hy] at this;exact this
 have H2:∀(i j:Nat)(x y:Oper)(d:Nat),i<j->R[i]? =some x->R[j]? =some y->x.dst=some d->y.dst=some d->False:=by
  intro i j x y d hij hx hy h1 h2;have:=H1 i j x y hij hx hy;simp[h1,h2] at this
 refine⟨fun j o ho=>by simpa using (H0 j o ho).1,fun j o ho cs b e=> ?_,fun i o e ho he hb=> ?_,fun i o ho d hd=> ?_,fun i j x y hij hx hy=> ?_,fun i j x y d hx hy h1 h2=> ?_,fun j m hj hm hp=> ?_,fun k hk=> ?_,fun k k' hkk hk=> ?_⟩
 ·have:=(H0 j o ho).2.1;rw[e] at this;cases this
 ·have:=List.all_eq_true.1 (H0 i o ho).2.2.1 e (by simpa using he);simpa [hb] using this
 ·have:=(H0 i o ho).2.2.2;rw[hd] at this;simpa using this
 ·have:=H1 i j x y hij hx hy;rw[Bool.and_eq_true,Bool.or_eq_true] at this;exact this.1
 ·rcases Nat.lt_trichotomy i j with h|h|h
  ·exact(H2 i j x y d h hx hy h1 h2).elim
  ·exact h
  ·exact(H2 j i y x d h hy hx h2 h1).elim
 ·have:=List.all_eq_true.1 h1 j (List.mem_range.2 hj);rw[Bool.and_eq_true] at this;have:=List.all_eq_true.1 this.2 m (List.mem_range.2 hm);simpa [hp] using this
 ·have:=List.all_eq_true.1 h2 k (List.mem_range.2 hk);rw[Bool.and_eq_true] at this;simpa using this.1
 ·have:=List.all_eq_true.1 h2 k' (List.mem_range.2 hk);rw[Bool.and_eq_true] at this;have:=List.all_eq_true.1 this.2 k (List.mem_range.2 hkk);simpa using this
structure acv(R:Array Oper)(fF:List Nat)(W:Nat->World)(vs:Nat->Value)(a0:Act)(listed:Array Bool)(a:Act)(w:World):Prop where
 size:listed.size=R.size
 closed:∀i o e,R[i]? =some o->listed.getD i false=true->e∈o.after->Region.binds .any e=true->listed.getD e.on false=true
 wld:∃m,m<2^fF.length/\(∀k,k<fF.length->(listed.getD (fF.getD k 0) false=true<->m.testBit k=true))/\w=W m
 defs:a.defers=a0.defers
 acw:a.tmps.size=a0.tmps.size
 got:∀j o t,R[j]? =some o->o.dst=some t->listed.getD j false=true->a.tmps.getD t undef=vs j
 old:∀t,(∀j o,R[j]? =some o->o.dst=some t->listed.getD j false=false)->a.tmps.getD t undef=a0.tmps.getD t undef
theorem WL(a:Act)(d:Option Nat)(v:Value):(a.put d v).tmps.size=a.tmps.size:=by cases d<;>simp[Act.put]
theorem put_defers(a:Act)(d:Option Nat)(v:Value):(a.put d v).defers=a.defers:=by cases d<;>rfl
theorem WM{a:Act}{d:Nat}{v:Value}(h:d<a.tmps.size):(a.put (some d) v).tmps.getD d undef=v:=by simp[Act.put,h]
theorem WO(hok:UL R N fF rng){a0:Act}(hN:a0.tmps.size=N)(SL:A 0=a0)(hA:∀j o,R[j]? =some o->A (j+1)=(A j).put o.dst (vs j)):
 ∀n,n<=R.size->(A n).tmps.size=N/\(A n).defers=a0.defers/\(∀t,(∀j o,j<n->R[j]? =some o->o.dst≠some t)->(A n).tmps.getD t undef=a0.tmps.getD t undef)/\(∀j o t,j<n->R[j]? =some o->o.dst=some t->(A n).tmps.getD t undef=vs j):=by
 intro n
 induction n with
 |zero=>intro _;rw[SL];exact⟨hN,rfl,fun _ _=>rfl,fun j o t hj=>by omega⟩
 |succ n ih=>
  intro hn;obtain⟨i1,i2,i3,i4⟩:=ih (by omega);have ho:R[n]? =some R[n]:=Array.getElem?_eq_getElem (by omega);have hAn:=hA n _ ho;refine⟨by rw[hAn,WL];exact i1,by rw[hAn,put_defers];exact i2,fun t ht=> ?_,fun j o t hj hjo hd=> ?_⟩
  ·rw[hAn,wC (ht n _ (by omega) ho)];exact i3 t fun j o hj hjo=>ht j o (by omega) hjo
  ·by_cases e:j=n
   ·subst e;rw[ho] at hjo;cases hjo;rw[hAn,hd,WM (by rw[i1];exact hok.dst _ _ ho _ hd)]
   ·rw[hAn,wC fun q=>e (hok.one j n _ _ t hjo ho hd q)];exact i4 j o t (by omega) hjo hd
theorem afq{Q:Exit->Act->World->Prop}(hok:UL R N fF rng){a0:Act}(hN:a0.tmps.size=N)(SL:A 0=a0)
 (hA:∀j o,R[j]? =some o->A (j+1)=(A j).put o.dst (vs j)/\∀m∈rng.getD j [],qP P o (A j).eval (W m) (vs j) (W (vV fF j m)))
 {listed:Array Bool}{a:Act}{w:World}(hM:acv R fF W vs a0 listed a w){i:Nat}(hi:i∈Region.ready .any R listed):
 wpOp P R Q i (fun a' w'=>acv R fF W vs a0 (listed.setIfInBounds i true) a' w') a w:=by
 obtain⟨hun,o,ho,JU⟩:=mem_ready.1 hi;have hlt:i<R.size:=(Array.getElem?_eq_some_iff.1 ho).1
 have hls:i<listed.size:=by rw[hM.size];exact hlt
 have zD:listed.getD i false=false:=by simp[hls] at hun ⊢;exact hun
 have hset:(listed.setIfInBounds i true).getD i false=true:=by simp[hls]
 have Ih:∀j x k,R[j]? =some x->listed.getD j false=true->((masks R.toList []).getD j 0).testBit k=true->listed.getD k false=true:=fun j x k hx hE hb=>
  E9 (fun k=>listed.getD k false=true) hM.closed hok.edge j x hx (fun e he hb=>hM.closed j x e hx hE he hb) k hb
 have BJ:∀k,((masks R.toList []).getD i 0).testBit k=true->listed.getD k false=true:=fun k hb=>
  E9 (fun k=>listed.getD k false=true) hM.closed hok.edge i o ho (fun e he hb=>JU e he hb) k hb
 obtain⟨m,hm,hmk,rfl⟩:=hM.wld;obtain⟨c1,c2,c3,c4⟩:=WO hok hN SL (fun j o h=>(hA j o h).1) i (by omega)
 have hev:∀x∈o.op.operands,a.eval x=(A i).eval x:=by
  intro x hx
  cases x with
  |tmp t=>
   have Om:t∈o.looksAt R:=Ji hx rfl;show a.tmps.getD t undef=(A i).tmps.getD t undef;by_cases hw:∃(j:Nat) (y:Oper),j<i/\R[j]? =some y/\y.dst=some t
   ·obtain⟨j,y,hj,hy,hd⟩:=hw;rw[c4 j y t hj hy hd];refine hM.got j y t hy hd (BJ j ?_);rcases hok.pair j i y o hj hy ho with h|h
    ·exact h
    ·exact absurd Om ((Oper.apart_spec h).1 t hd)
   ·rw[c3 t fun j y hj hy hd=>hw ⟨j,y,hj,hy,hd⟩];refine hM.old t fun j y hy hd=> ?_
    cases hl:listed.getD j false with
    |false=>rfl
    |true=>
     exfalso;rcases Nat.lt_trichotomy j i with h|h|h
     ·exact hw ⟨j,y,h,hy,hd⟩
     ·subst h;rw[zD] at hl;cases hl
     ·rcases hok.pair i j o y h ho hy with k|k
      ·rw[Ih j y i hy hl k] at zD;cases zD
      ·exact(Oper.apart_spec k).2.2 t hd Om
  |_=>rfl
 have arE:m∈rng.getD i []:=by
  refine hok.rng i m hlt hm ?_;unfold acu;refine List.all_eq_true.2 fun k hk=> ?_;have hk:=List.mem_range.1 hk
  cases q:m.testBit k with
  |false=>
   rw[if_neg (by decide)]
   cases hb:((masks R.toList []).getD i 0).testBit (fF.getD k 0) with
   |false=>rfl
   |true=>
    have:=(hmk k hk).1 (BJ _ hb);rw[q] at this;cases this
  |true=>
   rw[if_pos rfl];have hl:=(hmk k hk).2 q;have he:R[fF.getD k 0]? =some (R[fF.getD k 0]'(hok.aiH k hk)):=Array.getElem?_eq_getElem (hok.aiH k hk);rw[Bool.and_eq_true,Bool.and_eq_true];refine⟨⟨?_,?_⟩,List.all_eq_true.2 fun k' hk'=> ?_⟩
   ·cases hb:((masks R.toList []).getD (fF.getD k 0) 0).testBit i with
    |false=>rfl
    |true=>rw[Ih _ _ i he hl hb] at zD;cases zD
   ·rw[bne_iff_ne];intro e;rw[e,zD] at hl;cases hl
   ·cases hb:((masks R.toList []).getD (fF.getD k 0) 0).testBit (fF.getD k' 0) with
    |false=>rfl
    |true=>exact(hmk k' (List.mem_range.1 hk')).1 (Ih _ _ _ he hl hb)
 have hdo:=(hA i o ho).2 m arE;unfold qP at hdo;rw[<-execOp_congr o (hok.apw i o ho) hev] at hdo;unfold wpOp;simp only[ho];rw[if_pos (by simp[Region.wanted,hok.guard i o ho])];refine .inl (qP.wp hdo ?_);refine⟨by simpa using hM.size,fun j x e hx hE he hb=> ?_,?_,by rw[put_defers];exact hM.defs,by rw[WL];exact hM.acw,fun j y t hy hd hl=> ?_,fun t ht=> ?_⟩
 ·by_cases hji:j=i
  ·subst hji;rw[ho] at hx;cases hx;exact getD_set_true (JU e he hb)
  ·rw[getD_set_ne false (Ne.symm hji)] at hE;exact getD_set_true (hM.closed j x e hx hE he hb)
 ·by_cases hie:i∈fF
  ·obtain⟨k,hk,rfl⟩:∃k,k<fF.length/\fF.getD k 0=i:=by
    obtain⟨k,hk,e⟩:=List.getElem_of_mem hie;exact⟨k,hk,by simp[hk,e]⟩
   have hix:fF.idxOf (fF.getD k 0)=k:=by
    have h1:fF.idxOf (fF.getD k 0)<fF.length:=List.idxOf_lt_length_iff.2 hie
    have h2:fF.getD (fF.idxOf (fF.getD k 0)) 0=fF.getD k 0:=by
     rw[List.getD_eq_getElem?_getD,List.getElem?_eq_getElem h1,Option.getD_some];exact List.getElem_idxOf h1
    rcases Nat.lt_trichotomy (fF.idxOf (fF.getD k 0)) k with h|h|h
    ·exact absurd h2 (hok.apart _ k h hk)
    ·exact h
    ·exact absurd h2.symm (hok.apart k _ h h1)
   refine⟨m ||| 2^k,Nat.or_lt_two_pow hm (Nat.pow_lt_pow_right (by decide) hk),fun k' hk'=> ?_,?_⟩
   ·rw[Nat.testBit_or,Nat.testBit_two_pow];by_cases e:k'=k
    ·subst e;rw[hset,decide_eq_true rfl,Bool.or_true]
    ·have hne:fF.getD k 0≠fF.getD k' 0:=by
      rcases Nat.lt_trichotomy k k' with h|h|h
      ·exact hok.apart k k' h hk'
      ·exact absurd h.symm e
      ·exact(hok.apart k' k h hk).symm
     rw[getD_set_ne false hne,hmk k' hk'];simp[Ne.symm e]
   ·unfold vV;rw[if_pos (by simpa using hie),hix]
  ·refine⟨m,hm,fun k hk=> ?_,by unfold vV;rw[if_neg (by simpa using hie)]⟩;have hne:i≠fF.getD k 0:=fun e=>hie (by rw[e];simp[hk]);rw[getD_set_ne false hne];exact hmk k hk
 ·by_cases hji:j=i
  ·subst hji;rw[ho] at hy;cases hy;rw[hd,WM (by rw[hM.acw,hN];exact hok.dst _ _ ho _ hd)]
  ·rw[getD_set_ne false (Ne.symm hji)] at hl;rw[wC fun q=>hji (hok.one j i _ _ t hy ho hd q)];exact hM.got j y t hy hd hl
 ·have hne:o.dst≠some t:=fun q=>by
   have:=ht i o ho q;rw[hset] at this;cases this
  rw[wC hne];refine hM.old t fun j y hy hd=> ?_;have:=ht j y hy hd;by_cases hji:j=i
  ·subst hji;exact zD
  ·rw[getD_set_ne false (Ne.symm hji)] at this;exact this
theorem aiJ{Q:Exit->Act->World->Prop}(hok:UL R N fF rng){a0:Act}(hN:a0.tmps.size=N)(SL:A 0=a0)
 (hA:∀j o,R[j]? =some o->A (j+1)=(A j).put o.dst (vs j)/\∀m∈rng.getD j [],qP P o (A j).eval (W m) (vs j) (W (vV fF j m)))
 (hQ:Q .normal (A R.size) (W (2^fF.length-1))):
 ∀(fuel:Nat)(listed:Array Bool)(a:Act)(w:World),(List.range R.size).countP (fun i=> !listed.getD i false)<=fuel->acv R fF W vs a0 listed a w->wpAny P .any R Q fuel listed a w:=by
 have hend:∀listed a w,acv R fF W vs a0 listed a w->Region.ready .any R listed=[]->Q .normal a w:=by
  intro listed a w hM hr
  have hall:∀i,i<R.size->listed.getD i false=true:=by
   intro i
   induction i using Nat.strongRecOn with
   |_ i ih=>
    intro hi
    cases hE:listed.getD i false with
    |true=>rfl
    |false=>
     exfalso;have ho:R[i]? =some R[i]:=Array.getElem?_eq_getElem hi
     have:i∈Region.ready .any R listed:=by
      rw[mem_ready]
      have hs:i<listed.size:=by rw[hM.size];exact hi
      refine⟨by simp[hs] at hE ⊢;exact hE,_,ho,fun e he hb=> ?_⟩;have hon:=hok.edge i _ e ho he hb;exact ih e.on hon (by omega)
     rw[hr] at this;simp at this
  obtain⟨m,hm,hmk,rfl⟩:=hM.wld;obtain⟨c1,c2,c3,c4⟩:=WO hok hN SL (fun j o h=>(hA j o h).1) R.size (Nat.le_refl _)
  have hme:m=2^fF.length-1:=by
   refine Nat.eq_of_testBit_eq fun k=> ?_;rw[Nat.testBit_two_pow_sub_one];by_cases q:k<fF.length
   ·rw[(hmk k q).1 (hall _ (hok.aiH k q)),decide_eq_true q]
   ·rw[decide_eq_false q];exact Nat.testBit_lt_two_pow (Nat.lt_of_lt_of_le hm (Nat.pow_le_pow_right (by decide) (by omega)))
  subst hme
  have hae:a=A R.size:=by
   have hg:∀t,a.tmps.getD t undef=(A R.size).tmps.getD t undef:=by
    intro t;by_cases hw:∃(j:Nat) (y:Oper),R[j]? =some y/\y.dst=some t
    ·obtain⟨j,y,hy,hd⟩:=hw;have hj:=(Array.getElem?_eq_some_iff.1 hy).1;rw[c4 j y t hj hy hd];exact hM.got j y t hy hd (hall j hj)
    ·rw[c3 t fun j y _ hy hd=>hw ⟨j,y,hy,hd⟩];exact hM.old t fun j y hy hd=>absurd ⟨j,y,hy,hd⟩ hw
   have hs:a.tmps.size=(A R.size).tmps.size:=by rw[hM.acw,hN,c1]
   have ht:a.tmps=(A R.size).tmps:=by
    refine Array.ext hs fun t h1 h2=> ?_;have:=hg t;simpa [h1,h2] using this
   have hd:a.defers=(A R.size).defers:=hM.defs.trans c2.symm;obtain⟨WQ,ad1⟩:=a
   generalize A R.size=b at *
   obtain⟨bt,bd⟩:=b;simp only at ht hd;rw[ht,hd]
  rw[hae];exact hQ
 intro fuel
 induction fuel with
 |zero=>
  intro listed a w hc hM
  have hnone:Region.ready .any R listed=[]:=by
   cases hr:Region.ready .any R listed with
   |nil=>rfl
   |cons i l=>
    exfalso
    have hi:i∈Region.ready .any R listed:=by rw[hr];simp
    obtain⟨hun,o,ho,_⟩:=mem_ready.1 hi;have hlt:=(Array.getElem?_eq_some_iff.1 ho).1
    have hs:i<listed.size:=by rw[hM.size];exact hlt
    have hz:(List.range R.size).countP (fun i=> !listed.getD i false)=0:=by omega
    rw[List.countP_eq_zero] at hz;have:=hz i (List.mem_range.2 hlt);simp[hs] at hun this;rw[hun] at this;cases this
  exact⟨hnone,hend listed a w hM hnone⟩
 |succ fuel ih=>
  intro listed a w hc hM;refine⟨hend listed a w hM,fun i hi=> ?_⟩;refine wpOp_mono (fun a' w' hM'=>ih _ a' w' ?_ hM') (afq hok hN SL hA hM hi);obtain⟨hun,o,ho,_⟩:=mem_ready.1 hi;have hlt:=(Array.getElem?_eq_some_iff.1 ho).1
  have hs:i<listed.size:=by rw[hM.size];exact hlt
  have:=cnt_lt (fun j=> !listed.getD j false) (fun j=> !(listed.setIfInBounds i true).getD j false) (List.range R.size) i (fun x hx=>by
   by_cases e:x=i
   ·subst e;simp[hs] at hx
   ·rw[getD_set_ne false (Ne.symm e)] at hx;exact hx) (List.mem_range.2 hlt) (by simp[hs] at hun ⊢;exact hun) (by simp[hs])
  omega
end
theorem IK{P:Program}{id:Nat}{Q:Exit->Act->World->Prop}{a:Act}{w:World}{l:List Oper}(N:Nat)(fF:List Nat)(rng:List (List Nat))(W:Nat->World)(hm:P.follows .mixedOrders=true)(hB:aiG l.toArray N fF rng=true)
 (hN:a.tmps.size=N)(h0:W 0=w.drew)(h:dH P fF W (fun a'=>Q .normal a' (W (2^fF.length-1))) l rng 0 a):(Code.region id l.toArray true).wp P Q a w:=by
 refine wp_region_any hm ?_;have hok:=aiI hB;obtain⟨vs,A,k0,k1,k2⟩:=aae l rng 0 a h;refine aiJ (W:=W) (vs:=vs) (A:=A) hok hN k0 (fun j o hj=> ?_) (by simpa using k2) _ _ _ _ ?_ ⟨by simp,fun i o e _ hl=> ?_,⟨0,Nat.two_pow_pos _,fun k hk=> ?_,h0.symm⟩,rfl,rfl,fun j o t _ _ hl=> ?_,fun t _=>rfl⟩
 ·have:=k1 j o (by simpa using hj);rw[Nat.zero_add] at this;exact this
 ·exact Nat.le_trans List.countP_le_length (by simp)
 ·rw[getD_replicate_false] at hl;cases hl
 ·rw[getD_replicate_false];simp
 ·rw[getD_replicate_false] at hl;cases hl
theorem Nh{P:Program}{Q:Exit->Act->World->Prop}{a:Act}{w:World}{c:Code}(h:∀W,W=w->c.wp P Q a W):c.wp P Q a w:=h w rfl
section
variable {P:Program} {fF:List Nat} {W:Nat->World} {K:Act->Prop} {o:Oper} {l:List Oper} {rs:List (List Nat)} {i:Nat} {a:Act}
theorem aiK{m:Nat}(he:fF.contains i=false):vV fF i m=m:=by unfold vV;rw[he];rfl
theorem dH.done(h:K a):dH P fF W K [] rs i a:=h
theorem dH.any(v:Value){r:List Nat}(he:fF.contains i=false)(h:∀w,qP P o a.eval w v w)(hk:dH P fF W K l rs (i+1) (a.put o.dst v)):dH P fF W K (o::l) (r::rs) i a:=
 ⟨v,fun m _=>by rw[aiK he];exact h _,hk⟩
theorem dH.WQ(v:Value){m:Nat}{w w':World}(hw:W m=w)(hw':W (vV fF i m)=w')(h:qP P o a.eval w v w')(hk:dH P fF W K l rs (i+1) (a.put o.dst v)):dH P fF W K (o::l) ([m]::rs) i a:=
 ⟨v,fun k hk=>by
   have:k=m:=by simpa using hk
   subst this;rw[hw,hw'];exact h,hk⟩
theorem dH.at2(v:Value){m n:Nat}{w w' u u':World}(hw:W m=w)(hw':W (vV fF i m)=w')(hu:W n=u)(hu':W (vV fF i n)=u')(h:qP P o a.eval w v w')(h2:qP P o a.eval u v u')(hk:dH P fF W K l rs (i+1) (a.put o.dst v)):
 dH P fF W K (o::l) ([m,n]::rs) i a:=
 ⟨v,fun k hk=>by
   have:k=m\/k=n:=by simpa using hk
   rcases this with rfl|rfl
   ·rw[hw,hw'];exact h
   ·rw[hu,hu'];exact h2,hk⟩
theorem Ey{ρ:Operand->Value}{w w':World}{v:Value}(h:(execOp ρ o).run P w=.ok (.value v) w'):qP P o ρ w v w':=.inl h
theorem yV{ρ:Operand->Value}{w w':World}(h:(execOp ρ o).run P w=.ok .skip w'):qP P o ρ w undef w':=.inr ⟨h,rfl⟩
theorem FY{ρ:Operand->Value}{w w':World}{s x:Operand}{t:TypeId}{v u r:Value}(ho:o.op=.call {callee:=.builtin .append,args:= #[s,x],argTypes:= #[t,t]})(hs:ρ s=v)(hx:ρ x=u)
 (hr:(Builtin.append_ #[t,t] o.type #[v,u]).run P w=.ok r w'):qP P o ρ w r w':=by
 left;unfold execOp;simp only[ho,resolve,invoke,builtin,Sem.run_bind,Sem.run_pure,Result.andThen_ok,List.map_toArray,List.map_cons,List.map_nil,hs,hx,hr]
theorem dH.anyS(v:Value){r:List Nat}(hk:dH P fF W K l rs (i+1) (a.put o.dst v))(he:fF.contains i=false:=by rfl)(h:∀w,qP P o a.eval w v w:=by intro w;exact Ey (by go_simp)):dH P fF W K (o::l) (r::rs) i a:=dH.any v he h hk
theorem dH.acy(v:Value){m:Nat}{w w':World}(hw:W m=w)(hw':W (vV fF i m)=w')(hk:dH P fF W K l rs (i+1) (a.put o.dst v))(h:qP P o a.eval w v w':=by exact Ey (by go_simp)):dH P fF W K (o::l) ([m]::rs) i a:=dH.WQ v hw hw' h hk
theorem dH.acz(v:Value){m n:Nat}{w w' u u':World}(hw:W m=w)(hw':W (vV fF i m)=w')(hu:W n=u)(hu':W (vV fF i n)=u')(hk:dH P fF W K l rs (i+1) (a.put o.dst v))(h:qP P o a.eval w v w':=by exact Ey (by go_simp))(h2:qP P o a.eval u v u':=by exact Ey (by go_simp)):
 dH P fF W K (o::l) ([m,n]::rs) i a:=dH.at2 v hw hw' hu hu' h h2 hk
end
def iP(l:List UInt8)(rows:List (List aj))(c:Nat):Option (List (List aj)):=runT (lex l) rows c
theorem Pv(s:List UInt8):iP s [[]] 0=yB (s.length+1) s [[]] 0:=(yC _ _ _ _ (Nat.lt_succ_self _)).symm
theorem aiL(rows:List (List aj))(c:Nat):iP [] rows c=some rows:=by unfold iP;rw[lex_nil rfl,runT]
theorem acA{b:UInt8}{u:List UInt8}(h:lT b=true)(rows:List (List aj))(c:Nat):iP (b::u) rows c=iP u rows c:=by
 unfold iP;rw[<-wO (b::u),Dq h,wO]
theorem alo(u:List UInt8)(rows:List (List aj))(c:Nat):iP (40::u) rows c=if 15<rows.length+1\/1800<c+1 then none else iP u ([]::rows) (c+1):=by
 unfold iP;rw[kR (rO (by decide)),if_neg (by decide),if_pos rfl,runT]
theorem alp(u:List UInt8)(x y:List aj)(z:List (List aj))(c:Nat):iP (41::u) (x::y::z) c=if 1800<c+1 then none else iP u ((y++[bq x])::z) (c+1):=by
 unfold iP;rw[kR (rO (by decide)),if_neg (by decide),if_neg (by decide),if_pos rfl,runT]
theorem aiM(u:List UInt8)(x:List aj)(c:Nat):iP (41::u) [x] c=none:=by
 unfold iP;rw[kR (rO (by decide)),if_neg (by decide),if_neg (by decide),if_pos rfl];simp[runT]
theorem alq{b:UInt8}(u:List UInt8)(x:List aj)(z:List (List aj))(c:Nat)(h:bK b=true):iP (b::u) (x::z) c=if 1800<c+1 then none else iP (u.dropWhile bK) ((x++[bF (b::u.takeWhile bK)])::z) (c+1):=by
 unfold iP;rw[kR (rO (Kk h).1),if_pos h,runT]
theorem aiN{b:UInt8}(u:List UInt8)(rows:List (List aj))(c:Nat)(h1:lT b=false)(h2:b≠40)(h3:b≠41)(h4:bK b=false):iP (b::u) rows c=none:=by
 unfold iP;rw[kR (rO h1),if_neg (by rw[h4];decide),if_neg h2,if_neg h3];cases rows<;>simp[runT]
theorem afr{s u:List UInt8}{b:UInt8}{i e:Nat}(x:List aj)(z:List (List aj))(c:Nat)(hd:s.drop i=b::u)(hb:bK b=true)(hie:i<e)(hall:∀a∈(s.drop i).take (e-i),bK a=true)
 (hstop:e=s.length\/∃a,s[e]? =some a/\bK a=false):iP (b::u) (x::z) c=if 1800<c+1 then none else iP (s.drop e) ((x++[bF ((s.take e).drop i)])::z) (c+1):=by
 have hw:=Pt (p:=bK) (e-i) (s.drop i) hall (by
  rcases hstop with h|⟨a,h1,h2⟩
  ·left;rw[List.length_drop,h]
  ·right;exact⟨a,by rw[List.getElem?_drop,show i+(e-i)=e by omega];exact h1,h2⟩)
 rw[List.drop_drop,show i+(e-i)=e by omega,<-List.drop_take] at hw;rw[alq u x z c hb,<-hw.1,<-hw.2,hd];simp[List.takeWhile,List.dropWhile,hb]
def Ko:List (List aj)->Nat
 |[]=>0
 |l::r=>l.length+cZ l+Ko r
structure apx(s:List UInt8)(B R:Nat)(w0:World)(σ0:Nat->Nat)(T eo e:TypeId)(k:Nat)(v4 v5 v6:Value)(w:World):Prop where
 ex:∃(rows:List (List aj)) (σ:Nat->Nat) (i c g cap:Nat) (hs:List Value),v4=.slice (some ⟨g,0,none⟩) rows.length cap/\v5=.int .i64 c/\v6=.int .i64 i/\
  hs.length=rows.length/\1<=rows.length/\rows.length<=15/\c<=1800/\i+k=s.length/\iP (s.drop i) rows c=iP s [[]] 0/\
  j6 w σ B eo e v4 hs rows.reverse/\Grow w0 σ0 w σ/\l7 w σ/\(∀l∈rows,l.length<=c)/\Ko rows<=2*i/\σ R=0/\w.heap[R]? =some (.cells #[.string ⟨#[]⟩,.slice none 0 0] T (0,0))
theorem arF(w:World)(σ:Nat->Nat)(hl:∀b,b<w.heap.size\/σ b=0)(T eo e:TypeId):
 j6 ((w.alloc (.cells #[.string ⟨#[]⟩,.slice none 0 0] T)).alloc (.cells #[.slice none 0 0] eo)) σ (w.heap.size+1) eo e (.slice (some ⟨w.heap.size+1,0,none⟩) 1 1) [.slice none 0 0] [[]]:=by
 have hz:(w.alloc (.cells #[.string ⟨#[]⟩,.slice none 0 0] T)).heap.size=w.heap.size+1:=by simp
 refine⟨⟨rfl,.inr ⟨w.heap.size+1,1,#[.slice none 0 0],rfl,Nat.le_refl _,?_,Nat.le_refl _,by decide,rfl,rfl⟩⟩,fun b hb=> ?_,fun j l hj=> ?_,fun i j hi hj b hne h1 h2=> ?_⟩
 ·rw[<-hz];exact heap_alloc_new _ _
 ·cases hb;rcases hl (w.heap.size+1) with h|h
  ·omega
  ·exact h
 ·match j,hj with
  |0,hj=>
   cases hj;exact⟨_,rfl,⟨⟨[],⟨rfl,.inl ⟨rfl,rfl⟩⟩,fun i d hd=>by cases hd⟩,fun b hb=>by cases hb⟩,fun b hb=>by cases hb⟩
  |j+1,hj=>cases hj
 ·simp only[List.length_cons,List.length_nil] at h1 h2;omega
theorem Bq{w:World}{σ:Nat->Nat}(hl:∀b,b<w.heap.size\/σ b=0)(o:Go.Obj):Grow w σ (w.alloc o) σ:=
 ⟨by simp,rfl,rfl,fun b hb=>⟨Lib.alloc_old w o b hb,rfl⟩,fun b=>(hl b).elim (fun h=>.inl (by simp;omega)) .inr⟩
theorem Rh{s:List UInt8}{i:Nat}(h:i<s.length):i<(⟨s.toArray⟩:ByteArray).size:=by simpa [ByteArray.size] using h
theorem byte_at{s:List UInt8}{i:Nat}(h:i<s.length):(⟨s.toArray⟩:ByteArray)[i]'(Rh h)=s[i]:=by
 show s.toArray[i]'_=_
 simp
theorem Kq(g j:Nat):(⟨g,0,none⟩:Addr).add j=⟨g,j,none⟩:=by unfold Addr.add;split<;>simp_all
theorem wQ{w:World}{σ:Nat->Nat}{B g cap n:Nat}{eo e:TypeId}{hs:List Value}{rs:List (List aj)}(h:j6 w σ B eo e (.slice (some ⟨g,0,none⟩) n cap) hs rs){j:Nat}{u:Value}(hj:hs[j]? =some u):w.cell? ⟨g,j,none⟩=some u:=by
 have:=h.own.cells (g:=g) rfl j u hj
 rwa [Kq] at this
theorem IL{w:World}{σ:Nat->Nat}{B:Nat}{e:TypeId}{v:Value}{l:List aj}(h:Cw w σ B e v l):
 ∃a cap,v=.slice a l.length cap/\∀i (hi:i<l.length),∃g u,a=some ⟨g,0,none⟩/\w.cell? ⟨g,i*2,none⟩=some (.string ⟨l[i].aG.toArray⟩)/\w.cell? ⟨g,i*2+1,none⟩=some u/\dJ w σ (.sl (l[i].ah.map aj.enc)) u:=by
 obtain⟨⟨xs,ho,hx⟩,hf⟩:=h
 obtain⟨a,cap,rfl⟩:∃a cap,v=.slice a l.length cap:=by
  rcases ho.2 with⟨rfl,h0⟩|⟨g,cap,cur,rfl,_⟩
  ·exact⟨none,0,by rw[h0]⟩
  ·exact⟨_,_,rfl⟩
 refine⟨a,cap,rfl,fun i hi=> ?_⟩;rcases ho.2 with⟨h1,h0⟩|⟨g,cap0,cur,h1,_⟩
 ·omega
 ·cases h1;have hl:∀y∈l.map aj.enc,y.length=2:=Eu l
  have e1:(l.map aj.enc)[i]'(by simpa using hi)=[.s l[i].aG,.sl (l[i].ah.map aj.enc)]:=by rw[List.getElem_map,aj.aQ];first|rfl|done
  have hg:∀o (hoo:o<2),(l.map aj.enc).flatten[i*2+o]? =([.s l[i].aG,.sl (l[i].ah.map aj.enc)]:List D)[o]? :=fun o hoo=>by
   rw[flat_get _ 2 hl i o (by simpa using hi) hoo,e1]
  obtain⟨u0,k0,r0⟩:=hx (i*2+0) _ (hg 0 (by omega));obtain⟨u1,k1,r1⟩:=hx (i*2+1) _ (hg 1 (by omega));have c0:=ho.cells (g:=g) rfl _ _ k0;have c1:=ho.cells (g:=g) rfl _ _ k1;rw[Kq] at c0 c1;refine⟨g,u1,rfl,?_,c1,r1⟩;cases r0;exact c0
def acB(s:List UInt8)(w:World)(σ:Nat->Nat)(e:Ending)(w':World):Prop:=
 ∃lv σ',e=.returned (.tuple #[.agg #[.string ⟨(jm s).aG.toArray⟩,lv],.bool (j3 s)])/\dJ w' σ' (.sl ((jm s).ah.map aj.enc)) lv/\Grow w σ w' σ'/\l7 w' σ'
theorem Pw{s:List UInt8}{w W:World}{σ σ1:Nat->Nat}(h:∀x,yB (s.length+1) s [[]] 0=some [[x]]->dI x=false)(hg:Grow w σ W σ1)(hl:l7 W σ1):
 acB s w σ (.returned (.tuple #[.agg #[.string ⟨#[]⟩,.slice none 0 0],.bool false])) W:=by
 have hno:∀x,¬Denotes s x:=fun x hx=>by
  have h1:=h x (Bp hx);have h2:=hx.1;rw[h1] at h2;cases h2
 obtain⟨h1,h2⟩:=WG hno;refine⟨.slice none 0 0,σ1,?_,?_,hg,hl⟩
 ·rw[h1,h2];rfl
 ·rw[h2];exact .nil _ _
theorem yD{s:List UInt8}{w W:World}{σ σ1:Nat->Nat}(h:iP s [[]] 0=none)(hg:Grow w σ W σ1)(hl:l7 W σ1):
 acB s w σ (.returned (.tuple #[.agg #[.string ⟨#[]⟩,.slice none 0 0],.bool false])) W:=
 Pw (fun x hx=>by rw[<-Pv,h] at hx;cases hx) hg hl
theorem alr{s:List UInt8}{w W:World}{σ σ1:Nat->Nat}{x:aj}{lv:Value}(h:yB (s.length+1) s [[]] 0=some [[x]])(hv:dI x=true)(hr:dJ W σ1 (.sl (x.ah.map aj.enc)) lv)(hg:Grow w σ W σ1)(hl:l7 W σ1):
 acB s w σ (.returned (.tuple #[.agg #[.string ⟨x.aG.toArray⟩,lv],.bool true])) W:=by
 have h1:=(Kl s).1.1 ⟨x,h,hv⟩;have h2:=(Kl s).2 x h hv;exact⟨lv,σ1,by rw[h1,h2],by rw[h2];exact hr,hg,hl⟩
theorem afs{w wa w1:World}{σ σ1:Nat->Nat}{g:Nat}(hg:Grow w σ wa σ1)(hsz:wa.heap.size<=w1.heap.size)(hos:w1.os=wa.os)(hout:w1.output=wa.output)(hold:∀b,b<wa.heap.size->b≠g->w1.heap[b]? =wa.heap[b]?)(hgB:w.heap.size<=g):Grow w σ w1 σ1:=
 ⟨Nat.le_trans hg.size hsz,hos.trans hg.os,hout.trans hg.output,fun b hb=>⟨(hold b (Nat.lt_of_lt_of_le hb hg.size) (by omega)).trans (hg.old b hb).1,(hg.old b hb).2⟩,fun b=>(hg.live b).elim (fun h=>.inl (Nat.lt_of_lt_of_le h hsz)) .inr⟩
theorem Kr{w w':World}{σ σ':Nat->Nat}(hg:Grow w σ w' σ'){b j:Nat}{u:Value}(h:w.cell? ⟨b,j,none⟩=some u):w'.cell? ⟨b,j,none⟩=some u:=by
 cases hb:w.heap[b]? with
 |none=>simp[World.cell?,hb] at h
 |some o=>
  have:=(hg.old b (lt_of_some hb)).1;simp only[World.cell?,this] at h ⊢;exact h
theorem ank{w:World}{σ:Nat->Nat}(b:UInt8):qh w σ [] [] [.c (.d (.i .u8 b.toNat))] [.int .u8 b.toNat]:=by
 refine⟨rfl,fun j y hy=> ?_⟩
 match j,hy with
 |0,hy=>
  simp at hy;subst hy;exact⟨_,rfl,.i _ _,rfl⟩
theorem arG{w:World}{σ:Nat->Nat}{x:aj}{la:Option Addr}{ln lc:Nat}(h:dJ w σ (.sl (x.ah.map aj.enc)) (.slice la ln lc)):qh w σ [] [] [x.v] [.agg #[.string ⟨x.aG.toArray⟩,.slice la ln lc]]:=by
 refine⟨rfl,fun j y hy=> ?_⟩
 match j,hy with
 |0,hy=>
  simp at hy;subst hy;refine⟨_,rfl,?_⟩;rw[<-aj.M5,aj.aQ];refine⟨_,rfl,rfl,fun j y hy=> ?_⟩
  match j,hy with
  |0,hy=>simp at hy;subst hy;exact⟨_,rfl,.s _,rfl⟩
  |1,hy=>simp at hy;subst hy;exact⟨_,rfl,h,rfl⟩
theorem pW{w:World}{R:Nat}{a b x y:Value}{T:TypeId}{fr:Nat×Nat}(h:w.heap[R]? =some (.cells #[a,b] T fr)):((w.setCell ⟨R,0,none⟩ x).setCell ⟨R,1,none⟩ y).heap[R]? =some (.cells #[x,y] T fr):=by
 simp[World.setCell,Array.getElem?_modify,h]
theorem pX{w wr:World}{σ σ1:Nat->Nat}{R:Nat}{x y:Value}(hg:Grow w σ wr σ1)(hl:l7 wr σ1)(hR:w.heap.size<=R)(h0:σ1 R=0):
 Grow w σ ((wr.setCell ⟨R,0,none⟩ x).setCell ⟨R,1,none⟩ y) σ1/\l7 ((wr.setCell ⟨R,0,none⟩ x).setCell ⟨R,1,none⟩ y) σ1/\eG wr σ1 ((wr.setCell ⟨R,0,none⟩ x).setCell ⟨R,1,none⟩ y) σ1:=by
 have hs:((wr.setCell ⟨R,0,none⟩ x).setCell ⟨R,1,none⟩ y).heap.size=wr.heap.size:=by simp[World.setCell]
 have ho:∀b,b≠R->((wr.setCell ⟨R,0,none⟩ x).setCell ⟨R,1,none⟩ y).heap[b]? =wr.heap[b]? :=fun b hb=>by
  simp[World.setCell,Array.getElem?_modify,Ne.symm hb]
 have hn:eG wr σ1 ((wr.setCell ⟨R,0,none⟩ x).setCell ⟨R,1,none⟩ y) σ1:=LJ ((qw.setCell wr _ x rfl).trans (qw.setCell _ _ y rfl)) fun b hb=>ho b fun e=>hb (by rw[e];exact h0);refine⟨⟨by rw[hs];exact hg.size,hg.os,hg.output,fun b hb=>⟨(ho b (by omega)).trans (hg.old b hb).1,(hg.old b hb).2⟩,fun b=>by rw[hs];exact hg.live b⟩,hl.near hn,hn⟩
open Go.RowKit
theorem pY{tmps:Array Value}{W:World}{R:Nat}{a lv:Value}{q:Bool}{post:Ending->World->Prop}(h2:tmps.getD 2 undef=.pointer (some ⟨R,0,none⟩))(h3:tmps.getD 3 undef=.bool q)
 (hW:W.heap[R]? =some (.cells #[a,lv] 64 (0,0)))(hp:post (.returned (.tuple #[.agg #[a,lv],.bool q])) W):bodyPost prog Tryz.f36 post .ret ⟨tmps,[]⟩ W:=by
 have c0:W.cell? ⟨R,0,none⟩=some a:=by rw[Lib.cell_of_heap hW];rfl
 have c1:W.cell? ⟨R,1,none⟩=some lv:=by rw[Lib.cell_of_heap hW];rfl
 refine bodyPost_ret (v:=.tuple #[.agg #[a,lv],.bool q]) ?_ rfl hp;rw[results_cell_tmp rfl,h2,h3]
 go_simp
theorem aft:(prog.info? 64).map (fun i=>(i.zero,i.size,i.bytes))=some (some (.agg #[.string ⟨#[]⟩,.slice none 0 0]),2,40):=by kernel_rfl
theorem aiO:(prog.info? 62).map (fun i=>(i.zero,i.size,i.bytes))=some (some (.slice none 0 0),1,24):=by kernel_rfl
theorem acC(s:List UInt8)(w:World)(σ:Nat->Nat)(hl:∀b,b<w.heap.size\/σ b=0)(hgl:l7 w σ)(hs:s.length<=33554432):
 Calls prog 36 #[.string ⟨s.toArray⟩] w (acB s w σ):=by
 go_enter func36,ntmps36
 go_wp2
 go_loopg [4,5,6] s.length (fun k v4 v5 v6 wr=>apx s (w.heap.size+1) w.heap.size w σ 64 62 64 k v4 v5 v6 wr)
 case atStart=>
  have hg1:=Bq hl (.cells #[.string ⟨#[]⟩,.slice none 0 0] 64);have hg2:=hg1.trans (Bq hg1.live (.cells #[.slice none 0 0] 62));refine⟨[[]],σ,0,0,_,_,[.slice none 0 0],rfl,rfl,rfl,rfl,by decide,by decide,by decide,by omega,rfl,arF w σ hl _ _ _,hg2,hgl.near hg2.near,by simp,by simp[Ko,cZ],(hl w.heap.size).elim (fun h=>by omega) id,?_⟩;rw[Lib.alloc_old _ _ _ (by simp)];exact heap_alloc_new _ _
 case round=>
  obtain⟨rows,σ1,i,c,g,cap,hv,rfl,rfl,rfl,e1,e2,e3,e4,e5,e6,hst,hgr,Az,hlen,WR,GK,hR⟩:=hrel
  have r0:wr.cell? ⟨w.heap.size,0,none⟩=some (.string ⟨#[]⟩):=by rw[Lib.cell_of_heap hR];rfl
  have r1:wr.cell? ⟨w.heap.size,1,none⟩=some (.slice none 0 0):=by rw[Lib.cell_of_heap hR];rfl
  have z0:=Lib.frozen_of_heap hR 0;have z1:=Lib.frozen_of_heap hR 1;have HZ:Aside (wr.heap[w.heap.size]? =some (.cells #[.string ⟨#[]⟩,.slice none 0 0] 64 (0,0))):=hR;clear hR
  cases gk with
  |zero=>
   have hi:i=s.length:=by omega
   subst hi
   have hrun:iP s [[]] 0=some rows:=by rw[<-e6,List.drop_length,aiL]
   have HR:Aside (yB (s.length+1) s [[]] 0=some rows):=(Pv s).symm.trans hrun;clear e6 hrun;by_cases h1:rows.length=1
   ·obtain⟨l,rfl⟩:∃l,rows=[l]:=by
     match rows,h1 with
     |[l],_=>exact⟨l,rfl⟩
    obtain⟨h0,rfl⟩:∃h0,hv=[h0]:=by
     match hv,e1 with
     |[h0],_=>exact⟨h0,rfl⟩
    have c0:=wQ hst (j:=0) rfl;obtain⟨hv',q1,q2,_⟩:=hst.rows 0 l rfl;cases q1;obtain⟨a0,cap0,rfl,hrow⟩:=IL q2;clear hst q2 e1;by_cases h2:l.length=1
    ·obtain⟨x,rfl⟩:∃x,l=[x]:=by
      match l,h2 with
      |[x],_=>exact⟨x,rfl⟩
     obtain⟨g1,lv,rfl,d0,d1,hlv⟩:=hrow 0 (by simp);clear hrow;simp only[List.getElem_cons_zero,Nat.zero_mul,Nat.zero_add] at d0 d1 hlv
     simp only[List.length_cons,List.length_nil,Nat.zero_add] at *
     have hxs:x.sz<=67108864:=by simp only[Ko,cZ,List.length_cons,List.length_nil] at WR;omega
     obtain⟨la,ln,lc,rfl⟩:=afo hlv;have hc:=Dp (qB x hxs) hgr.live Az (arG hlv)
     have hc:Calls prog 53 #[.agg #[.string ⟨x.aG.toArray⟩,.slice la ln lc]] wr fun e w'=>e=.returned (.bool (dI x))/\∃σ',Grow wr σ1 w' σ'/\l7 w' σ':=
      hc.mono fun e w' ⟨v,σ',he,xG,hg,hgl⟩=>by
       obtain rfl:v=.bool (dI x):=by cases xG.1;rfl
       exact⟨he,σ',hg,hgl⟩
     have HL:Aside (dJ wr σ1 (.sl (x.ah.map aj.enc)) (.slice la ln lc)):=hlv;clear hlv hlen WR;have xL:w.heap.size<wr.heap.size:=lt_of_some HZ.out;by_cases tY:dI x=true
     ·rw[tY] at hc;have HV:Aside (dI x=true):=tY;clear tY
      go_wp2_with (go_at_call 53;refine hc.mono ?_)
      rintro e w1 ⟨rfl,σ2,hg2,Ni⟩;have c0':=Kr hg2 c0;have d0':=Kr hg2 d0;have d1':=Kr hg2 d1;have hR':=(hg2.old _ xL).1.trans HZ.out
      have r0':w1.cell? ⟨w.heap.size,0,none⟩=some (.string ⟨#[]⟩):=by rw[Lib.cell_of_heap hR'];rfl
      have r1':w1.cell? ⟨w.heap.size,1,none⟩=some (.slice none 0 0):=by rw[Lib.cell_of_heap hR'];rfl
      have z0':=Lib.frozen_of_heap hR' 0;have z1':=Lib.frozen_of_heap hR' 1;have Af:Aside (w1.heap[w.heap.size]? =some (.cells #[.string ⟨#[]⟩,.slice none 0 0] 64 (0,0))):=hR';clear hR' c0 d0 d1 r0 r1 z0 z1
      go_wp2
      have hG:=pX (x:=.string ⟨x.aG.toArray⟩) (y:=.slice la ln lc) (hgr.trans hg2) Ni (Nat.le_refl _) (((hg2.old _ xL).2).trans GK);exact pY (R:=w.heap.size) rfl rfl (pW Af.out) (alr HR.out HV.out ((HL.out.mono hg2.near).mono hG.2.2) hG.1 hG.2.1)
     ·have tY:dI x=false:=by simpa using tY
      rw[tY] at hc;have HV:Aside (dI x=false):=tY;clear tY
      go_wp2_with (go_at_call 53;refine hc.mono ?_)
      rintro e w1 ⟨rfl,σ2,hg2,Ni⟩;have hR':=(hg2.old _ xL).1.trans HZ.out
      have r0':w1.cell? ⟨w.heap.size,0,none⟩=some (.string ⟨#[]⟩):=by rw[Lib.cell_of_heap hR'];rfl
      have r1':w1.cell? ⟨w.heap.size,1,none⟩=some (.slice none 0 0):=by rw[Lib.cell_of_heap hR'];rfl
      have z0':=Lib.frozen_of_heap hR' 0;have z1':=Lib.frozen_of_heap hR' 1;have Af:Aside (w1.heap[w.heap.size]? =some (.cells #[.string ⟨#[]⟩,.slice none 0 0] 64 (0,0))):=hR';clear hR' c0 d0 d1 r0 r1 z0 z1
      go_wp2
      have hG:=pX (x:=.string ⟨#[]⟩) (y:=.slice none 0 0) (hgr.trans hg2) Ni (Nat.le_refl _) (((hg2.old _ xL).2).trans GK);refine pY (R:=w.heap.size) rfl rfl (pW Af.out) (Pw (fun y hx=> ?_) hG.1 hG.2.1);have:=HR.out.symm.trans hx;simp only[Option.some.injEq,List.cons.injEq,and_true] at this;rw[<-this];exact HV.out
    ·have h3:¬(l.length:Int)=1:=by omega
     clear hrow
     simp only[List.length_cons,List.length_nil,Nat.zero_add] at *
     go_wp2
     have hG:=pX (x:=.string ⟨#[]⟩) (y:=.slice none 0 0) hgr Az (Nat.le_refl _) GK;refine pY (R:=w.heap.size) rfl rfl (pW HZ.out) (Pw (fun x hx=> ?_) hG.1 hG.2.1);have:=HR.out.symm.trans hx;simp only[Option.some.injEq,List.cons.injEq,and_true] at this;rw[this] at h2;exact absurd rfl h2
   ·have h3:¬(rows.length:Int)=1:=by omega
    clear hst
    go_wp2
    have hG:=pX (x:=.string ⟨#[]⟩) (y:=.slice none 0 0) hgr Az (Nat.le_refl _) GK;refine pY (R:=w.heap.size) rfl rfl (pW HZ.out) (Pw (fun x hx=> ?_) hG.1 hG.2.1);have:=HR.out.symm.trans hx;simp only[Option.some.injEq] at this;rw[this] at h1;exact absurd rfl h1
  |succ k=>
   have hi:i<s.length:=by omega
   obtain⟨b,hb⟩:∃b,s[i]=b:=⟨_,rfl⟩
   have hdrop:s.drop i=b::s.drop (i+1):=by rw[List.drop_eq_getElem_cons hi,hb]
   rw[hdrop] at e6;have HA:Aside (iP (b::s.drop (i+1)) rows c=iP s [[]] 0):=e6;have HB:Aside (s[i]=b):=hb;have HD:Aside (s.drop i=b::s.drop (i+1)):=hdrop;have hx:((⟨s.toArray⟩:ByteArray)[i]'(Rh hi)).toNat=b.toNat:=congrArg UInt8.toNat ((byte_at hi).trans hb);clear e6 hb hdrop;by_cases hbl:lT b=true
   ·have HN:Aside (iP (s.drop (i+1)) rows c=iP s [[]] 0):=(acA hbl _ _).symm.trans HA.out
    have h32:b.toNat=32\/b.toNat=10:=by unfold lT at hbl;simpa using hbl
    clear hbl;rcases h32 with h32|h32
    all_goals
     rw[h32] at hx;clear h32
     go_wp2
     go_roundg k
     case measure=>omega
     case rel=>exact⟨rows,σ1,i+1,c,g,cap,hv,rfl,rfl,rfl,e1,e2,e3,e4,by omega,HN.out,hst,hgr,Az,hlen,by omega,GK,HZ.out⟩
   have Ku:lT b=false:=by simpa using hbl
   clear hbl;have hgB:w.heap.size+1<=g/\g<wr.heap.size:=hst.own.lt g rfl;have hlr:rows.reverse.length=rows.length:=List.length_reverse;by_cases Pn:b=40
   ·subst Pn;have HN:Aside ((if 15<rows.length+1\/1800<c+1 then none else iP (s.drop (i+1)) ([]::rows) (c+1))=iP s [[]] 0):=(alo _ _ _).symm.trans HA.out;rw[show(40:UInt8).toNat=40 from rfl] at hx;clear Ku;obtain⟨i0,hi0,hz0,hz1,hz2⟩:=info_parts aiO;have hga:=Bq hgr.live (.cells #[.slice none 0 0] 62);have xL:w.heap.size<wr.heap.size:=lt_of_some HZ.out;obtain⟨g',cap',w1,hrun,hst',hnr,hold,hsz,hos,hout⟩:=aiE (P:=prog) (w0:=w) (σ0:=σ) (ty:=77) underlying77 hi0 hz0 hz1 hz2 (hst.grow hga) e1 hlr (by decide) (by omega) ⟨wr.heap.size,0,none⟩ 1 (by rw[Lib.cell_of_heap (heap_alloc_new wr _)];rfl) (Kq _ _) hga.live (by simp;omega);have GL:w1.heap[w.heap.size]? =some (.cells #[.string ⟨#[]⟩,.slice none 0 0] 64 (0,0)):=(hold _ (by simp;omega) (by omega)).trans ((Lib.alloc_old wr _ _ xL).trans HZ.out);have hG1:=afs (hgr.trans hga) hsz hos hout hold (by omega);have hGl:=(Az.near hga.near).near hnr
    have r0':w1.cell? ⟨w.heap.size,0,none⟩=some (.string ⟨#[]⟩):=by rw[Lib.cell_of_heap GL];rfl
    have r1':w1.cell? ⟨w.heap.size,1,none⟩=some (.slice none 0 0):=by rw[Lib.cell_of_heap GL];rfl
    have z0':=Lib.frozen_of_heap GL 0;have z1':=Lib.frozen_of_heap GL 1;have Af:Aside (w1.heap[w.heap.size]? =some (.cells #[.string ⟨#[]⟩,.slice none 0 0] 64 (0,0))):=GL;have HST:Aside (j6 w1 σ1 (w.heap.size+1) 62 64 (.slice (some ⟨g',0,none⟩) (rows.length+1) cap') (hv++[.slice none 0 0]) (rows.reverse++[[]])):=hst';clear hst hst' GL hold hnr r0 r1 z0 z1 hi0 hz0 hz1 hz2 hsz hos hout hlr;by_cases hl1:15<rows.length+1
    ·have acD:(15:Int)<(rows.length:Int)+1:=by omega
     go_wp2_with (at_builtin;refine Lib.wpList_append_run _ rfl _ _ _ _ rfl _ _ rfl rfl _ _ hrun ?_)
     have hG:=pX (x:=.string ⟨#[]⟩) (y:=.slice none 0 0) hG1 hGl (Nat.le_refl _) GK;refine pY (R:=w.heap.size) rfl rfl (pW Af.out) (yD ?_ hG.1 hG.2.1);rw[<-HN.out,if_pos (.inl hl1)]
    ·have acD:¬(15:Int)<(rows.length:Int)+1:=by omega
     by_cases hl2:1800<c+1
     ·have Nj:(1800:Int)<(c:Int)+1:=by omega
      go_wp2_with (at_builtin;refine Lib.wpList_append_run _ rfl _ _ _ _ rfl _ _ rfl rfl _ _ hrun ?_)
      have hG:=pX (x:=.string ⟨#[]⟩) (y:=.slice none 0 0) hG1 hGl (Nat.le_refl _) GK;refine pY (R:=w.heap.size) rfl rfl (pW Af.out) (yD ?_ hG.1 hG.2.1);rw[<-HN.out,if_pos (.inr hl2)]
     ·have Nj:¬(1800:Int)<(c:Int)+1:=by omega
      have hnx:iP (s.drop (i+1)) ([]::rows) (c+1)=iP s [[]] 0:=by rw[<-HN.out,if_neg (by omega)]
      have WS:Aside (iP (s.drop (i+1)) ([]::rows) (c+1)=iP s [[]] 0):=hnx;clear hnx
      go_wp2_with (at_builtin;refine Lib.wpList_append_run _ rfl _ _ _ _ rfl _ _ rfl rfl _ _ hrun ?_)
      go_roundg k
      case measure=>omega
      case rel=>
       refine⟨[]::rows,σ1,i+1,c+1,g',cap',hv++[.slice none 0 0],rfl,rfl,rfl,by simp[e1],by simp,by simp only[List.length_cons];omega,by omega,by omega,WS.out,?_,hG1,hGl,fun l hl=> ?_,by simp only[Ko,cZ,List.length_nil];omega,GK,Af.out⟩
       ·rw[List.reverse_cons];exact HST.out
       ·rcases List.mem_cons.1 hl with rfl|hl
        ·simp
        ·have:=hlen l hl;omega
   have apy:¬b.toNat=32/\¬b.toNat=10/\¬b.toNat=40:=by
    unfold lT at Ku;simp only[Bool.or_eq_false_iff,decide_eq_false_iff_not] at Ku;exact⟨Ku.1,Ku.2,fun e=>Pn (UInt8.toNat_inj.1 e)⟩
   obtain⟨n32,n10,n40⟩:=apy;by_cases SI:b=41
   ·subst SI;rw[show(41:UInt8).toNat=41 from rfl] at hx;clear Ku n32 n10 n40 Pn;by_cases h1:rows.length=1
    ·obtain⟨l,rfl⟩:∃l,rows=[l]:=by
      match rows,h1 with
      |[l],_=>exact⟨l,rfl⟩
     have HN:Aside (none=iP s [[]] 0):=(aiM _ _ _).symm.trans HA.out;clear hst h1 hlen hlr
     simp only[List.length_cons,List.length_nil,Nat.zero_add] at *
     go_wp2
     have hG:=pX (x:=.string ⟨#[]⟩) (y:=.slice none 0 0) hgr Az (Nat.le_refl _) GK;exact pY (R:=w.heap.size) rfl rfl (pW HZ.out) (yD HN.out.symm hG.1 hG.2.1)
    ·obtain⟨x,y,z,rfl⟩:∃x y z,rows=x::y::z:=by
      match rows,e2,h1 with
      |x::y::z,_,_=>exact⟨x,y,z,rfl⟩
     have HN:Aside ((if 1800<c+1 then none else iP (s.drop (i+1)) ((y++[bq x])::z) (c+1))=iP s [[]] 0):=(alp _ _ _ _ _).symm.trans HA.out;simp only[List.length_cons] at e1 e2 e3 h1 hlr;have q0:((z.length:Int)+1==0)=false:=beq_false_of_ne (by omega)
     simp only[List.length_cons] at *
     clear h1
     obtain⟨hz,yv,xv,rfl,hzl⟩:∃hz yv xv,hv=hz++[yv,xv]/\hz.length=z.length:=⟨hv.take z.length,hv[z.length]'(by omega),hv[z.length+1]'(by omega),by
      conv=>lhs;rw[<-List.take_append_drop z.length hv]
      rw[List.drop_eq_getElem_cons (by omega),List.drop_eq_getElem_cons (by omega),List.drop_eq_nil_of_le (by omega)],by simp;omega⟩
     have yf:=Pq hst z.length;have yc:=wQ hst (j:=z.length) (u:=yv) (by rw[List.getElem?_append_right (by omega),hzl,Nat.sub_self];rfl);have xc:=wQ hst (j:=z.length+1) (u:=xv) (by rw[List.getElem?_append_right (by omega),hzl,Nat.add_sub_cancel_left];rfl);obtain⟨yv',b1,b2,b3⟩:=hst.rows z.length y (by simp);rw[List.getElem?_append_right (by omega),hzl,Nat.sub_self] at b1
     obtain rfl:yv=yv':=by simpa using b1
     obtain⟨xv',d1,d2,d3⟩:=hst.rows (z.length+1) x (by simp);rw[List.getElem?_append_right (by omega),hzl,Nat.add_sub_cancel_left] at d1
     obtain rfl:xv=xv':=by simpa using d1
     obtain⟨ya,xK,rfl,_⟩:=IL b2;obtain⟨xa,uO,rfl,_⟩:=IL d2;obtain⟨yxs,aiP,ano⟩:=b2.own;clear b1 d1
     have i1:(0:Int)<=(z.length:Int):=by omega
     have i2:(z.length:Int)<(z.length:Int)+1+1:=by omega
     have i3:(0:Int)<=(z.length:Int)+1:=by omega
     have i4:(z.length:Int)+1<(z.length:Int)+1+1:=by omega
     have hsub:(z.length:Int)+1-1=(z.length:Int):=by omega
     have hwr:IntKind.i64.wrap ((z.length:Int)+1-1)=(z.length:Int):=by rw[hsub];exact Lm _ (by omega)
     have hwr2:IntKind.i64.wrap (z.length:Int)=(z.length:Int):=Lm _ (by omega);have Kn:some g≠(Value.slice ya y.length xK).ownBlock:=fun e=>b3 g e.symm rfl;obtain⟨iS,hiS,hzS,hsS,hbS⟩:=info_parts aft
     have hyl:y.length<=1800:=by have:=hlen y (by simp);omega
     have hyb:∀b,(Value.slice ya y.length xK).ownBlock=some b->b<wr.heap.size:=fun b hb=>(aiP.lt b hb).2
     go_wp2
     go_region
     all_goals go_wp2
     all_goals
      refine Nh fun wq hwq=> ?_;obtain⟨o16,hq⟩:∃o,wq=(wr.alloc o).drew:=⟨_,hwq⟩;clear hwq;have hcp:z.length+1+1<=cap:=alm hst
      have hcp1:(z.length:Int)+1<=(cap:Int):=by omega
      have hcp2:(0:Int)<=(z.length:Int)+1:=by omega
      have hga:=afp (Bq hgr.live o16);rw[<-hq] at hga
      have hqs:wq.heap.size=wr.heap.size+1:=by rw[hq];simp
      clear hq
      have Cx:j6 wq σ1 (w.heap.size+1) 62 64 (.slice (some ⟨g,0,none⟩) (z.length+1+1) cap) ((hz++[Value.slice ya y.length xK])++[Value.slice xa x.length uO]) ((z.reverse++[y])++[x]):=by
       have:=hst.grow hga;simpa using this
      obtain⟨σ2,xv2,f1,f2,f3,f4,f5,f6⟩:=Cx.fast hga.live
      obtain rfl:Value.slice xa x.length uO=xv2:=by
       rw[List.getElem?_append_right (by simp;omega)] at f4;simpa [hzl] using f4
      have xI:=aiF f6 (by simp;omega) (by simp)
     ·obtain⟨g1,jB,w2,hrun,s1,s2,s3,⟨qO,s4,s5⟩,s6,s7,s8,s9,s10,s11,s12,s13,Kv⟩:=Ew (P:=prog) (j:=z.length) 62 underlying62 hiS hzS hsS hbS f2 (by omega) xI (by simp;omega) (y:=y) (by simp) (by rw[List.getElem?_append_right (by omega),hzl,Nat.sub_self];rfl) (by omega) (bq x) (u:=.string ⟨#[]⟩) rfl f5 rfl 64;obtain⟨wa,sK⟩:∃wa,wa=w2.setCell ⟨g,z.length,none⟩ (.slice (some ⟨g1,0,none⟩) (y.length+1) jB):=⟨_,rfl⟩;rw[<-sK] at s7 s8
      obtain⟨W,e0,zQ,Ju,Kw⟩:∃W:Nat->World,W 0=wq.drew/\W 1=wq.drew.alloc (.cells #[.string ⟨#[]⟩,.slice xa x.length uO] 64)/\W 3=w2/\W 7=wa:=
       ⟨fun m=>if m=0 then wq.drew else if m=1 then wq.drew.alloc (.cells #[.string ⟨#[]⟩,.slice xa x.length uO] 64) else if m=3 then w2 else wa,rfl,rfl,rfl,rfl⟩
      have yq:wq.cell? ⟨g,z.length,none⟩=some (.slice ya y.length xK):=wQ Cx (j:=z.length) (by rw[List.append_assoc,List.getElem?_append_right (by omega),hzl,Nat.sub_self];rfl);have xq:wq.cell? ⟨g,z.length+1,none⟩=some (.slice xa x.length uO):=wQ Cx (j:=z.length+1) (by rw[List.append_assoc,List.getElem?_append_right (by omega),hzl,Nat.add_sub_cancel_left];rfl);refine IK 152 [13,14,16] [[0,1,3],[0,1,3],[0,1,3],[0,1],[0,1],[0,1],[0,1],[0,1],[0],[0],[0],[0],[0],[0],[1],[3],[3]] W (by kernel_rfl) (by kernel_rfl) rfl e0 ?_;refine dH.anyS (.slice (some ⟨g,0,none⟩) (z.length+1+1) cap) ?_;refine dH.anyS (.int .i64 (z.length+1)) ?_;refine dH.anyS (.int .i64 z.length) ?_;refine dH.anyS (.slice (some ⟨g,0,none⟩) (z.length+1+1) cap) ?_;refine dH.anyS (.int .i64 (z.length+1)) ?_;refine dH.anyS (.int .i64 z.length) ?_;refine dH.anyS (.pointer (some ⟨g,z.length,none⟩)) ?_;refine dH.acz (.slice ya y.length xK) e0 e0 zQ zQ ?_;refine dH.anyS (.slice (some ⟨g,0,none⟩) (z.length+1+1) cap) ?_;refine dH.anyS (.int .i64 (z.length+1)) ?_;refine dH.anyS (.pointer (some ⟨g,z.length+1,none⟩)) ?_;refine dH.acy (.slice xa x.length uO) e0 e0 ?_;refine dH.anyS (.agg #[.string ⟨#[]⟩,.slice xa x.length uO]) ?_;refine dH.acy (.slice (some ⟨wq.heap.size,0,none⟩) 1 1) e0 zQ ?_;refine dH.WQ (.slice (some ⟨g1,0,none⟩) (y.length+1) jB) zQ Ju (FY rfl (by go_simp) (by go_simp) hrun) ?_;refine dH.anyS (.pointer (some ⟨g,z.length,none⟩)) ?_;refine dH.WQ undef Ju Kw (yV (by rw[sK];go_simp)) ?_;refine dH.done ?_;rw[show W (2^ [13,14,16].length-1)=wa from Kw];have xL:w.heap.size<wr.heap.size:=lt_of_some HZ.out
      have CS:wa.heap[w.heap.size]? =some (.cells #[.string ⟨#[]⟩,.slice none 0 0] 64 (0,0)):=by
       rw[sK,kL (by omega),Kv _ (by omega),(hga.old _ xL).1];exact HZ.out
      have SN:Grow w σ wa σ2:=Ev (B:=w.heap.size+1) (WK (hgr.trans hga) f3 f2 (by omega)) (by rw[sK];simpa [World.setCell] using s9) (by rw[sK];exact s10) (by rw[sK];exact s11) (fun b hb=>by rw[sK,kL (by omega)];exact Kv b hb) (by omega);have Ri:l7 wa σ2:=((Az.near hga.near).near f1).near s7;have Ky:σ2 w.heap.size=0:=(f3 _ (by omega)).trans GK
      have SQ:j6 wa σ2 (w.heap.size+1) 62 64 (.slice (some ⟨g,0,none⟩) (z.length+1) cap) (hz++[.slice (some ⟨g1,0,none⟩) (y.length+1) jB]) ((y++[bq x])::z).reverse:=by
       rw[wP _ _ _ _ hzl,wP _ _ _ _ (by simp)] at s8;rw[List.reverse_cons];exact s8
      have hsz1:cZ (y++[bq x])=cZ y+(x.length+cZ x):=by
       rw[gM,cZ,cZ,jh,Nat.add_zero]
      have Px:Ko ((y++[bq x])::z)<=2*(i+1):=by
       simp only[Ko,hsz1,List.length_append,List.length_singleton] at WR ⊢;omega
      have H6:∀l∈(y++[bq x])::z,l.length<=c+1:=fun l hl=>by
       rcases List.mem_cons.1 hl with rfl|hl
       ·have:=hlen y (by simp);simp only[List.length_append,List.length_singleton];omega
       ·have:=hlen l (by simp[hl]);omega
      have r0':wa.cell? ⟨w.heap.size,0,none⟩=some (.string ⟨#[]⟩):=by rw[Lib.cell_of_heap CS];rfl
      have r1':wa.cell? ⟨w.heap.size,1,none⟩=some (.slice none 0 0):=by rw[Lib.cell_of_heap CS];rfl
      have z0':=Lib.frozen_of_heap CS 0;have z1':=Lib.frozen_of_heap CS 1;have HST:Aside (j6 wa σ2 (w.heap.size+1) 62 64 (.slice (some ⟨g,0,none⟩) (z.length+1) cap) (hz++[.slice (some ⟨g1,0,none⟩) (y.length+1) jB]) ((y++[bq x])::z).reverse):=SQ;have Af:Aside (wa.heap[w.heap.size]? =some (.cells #[.string ⟨#[]⟩,.slice none 0 0] 64 (0,0))):=CS;clear e0 zQ Ju Kw sK s1 s2 s3 s4 s5 s6 s7 s8 SQ s9 s10 s11 s12 s13 Kv hrun yq xq xI f6 f5 f4 Cx hst CS r0 r1 z0 z1 yc xc yf ano aiP b2 d2
      have acD:¬(15:Int)<(z.length:Int)+1:=by omega
      by_cases hl2:1800<c+1
      ·have Nj:(1800:Int)<(c:Int)+1:=by omega
       go_wp2
       have hG:=pX (x:=.string ⟨#[]⟩) (y:=.slice none 0 0) SN Ri (Nat.le_refl _) Ky;refine pY (R:=w.heap.size) rfl rfl (pW Af.out) (yD ?_ hG.1 hG.2.1);rw[<-HN.out,if_pos hl2]
      ·have Nj:¬(1800:Int)<(c:Int)+1:=by omega
       have WS:Aside (iP (s.drop (i+1)) ((y++[bq x])::z) (c+1)=iP s [[]] 0):=by
        have:=HN.out;rw[if_neg hl2] at this;exact this
       go_wp2
       go_roundg k
       case measure=>omega
       case rel=>
        exact⟨(y++[bq x])::z,σ2,i+1,c+1,g,cap,_,rfl,rfl,rfl,by simp[hzl],by simp,by simp only[List.length_cons];omega,by omega,by omega,WS.out,HST.out,SN,Ri,H6,Px,Ky,Af.out⟩
     ·obtain⟨g1,jB,w2,hrun,s1,s2,s3,⟨qO,s4,s5⟩,s6,s7,s8,s9,s10,s11,s12,s13,Kv⟩:=Ew (P:=prog) (j:=z.length) 62 underlying62 hiS hzS hsS hbS f2 (by omega) xI (by simp;omega) (y:=y) (by simp) (by rw[List.getElem?_append_right (by omega),hzl,Nat.sub_self];rfl) (by omega) bT (u:=.string ⟨#[]⟩) (lv:=.slice none 0 0) rfl (.nil _ _) rfl 64;obtain⟨wa,sK⟩:∃wa,wa=w2.setCell ⟨g,z.length,none⟩ (.slice (some ⟨g1,0,none⟩) (y.length+1) jB):=⟨_,rfl⟩;rw[<-sK] at s7 s8
      obtain⟨W,e0,zQ,Ju,Kw⟩:∃W:Nat->World,W 0=wq.drew/\W 1=wq.drew.alloc (.cells #[.string ⟨#[]⟩,.slice none 0 0] 64)/\W 3=w2/\W 7=wa:=
       ⟨fun m=>if m=0 then wq.drew else if m=1 then wq.drew.alloc (.cells #[.string ⟨#[]⟩,.slice none 0 0] 64) else if m=3 then w2 else wa,rfl,rfl,rfl,rfl⟩
      have yq:wq.cell? ⟨g,z.length,none⟩=some (.slice ya y.length xK):=wQ Cx (j:=z.length) (by rw[List.append_assoc,List.getElem?_append_right (by omega),hzl,Nat.sub_self];rfl);have xq:wq.cell? ⟨g,z.length+1,none⟩=some (.slice xa x.length uO):=wQ Cx (j:=z.length+1) (by rw[List.append_assoc,List.getElem?_append_right (by omega),hzl,Nat.add_sub_cancel_left];rfl);refine IK 152 [14,15,17] [[0,1],[0,1],[0,1],[0,1],[0,1],[0,1],[0,1],[0,1],[0,1],[0,1],[0,1],[0,1],[0,1],[0,1],[0],[1],[3],[3]] W (by kernel_rfl) (by kernel_rfl) rfl e0 ?_;refine dH.anyS (.slice (some ⟨g,0,none⟩) (z.length+1+1) cap) ?_;refine dH.anyS (.int .i64 (z.length+1)) ?_;refine dH.anyS (.int .i64 z.length) ?_;refine dH.anyS (.slice (some ⟨g,0,none⟩) (z.length+1+1) cap) ?_;refine dH.anyS (.int .i64 (z.length+1)) ?_;refine dH.anyS (.int .i64 z.length) ?_;refine dH.anyS (.pointer (some ⟨g,z.length,none⟩)) ?_;refine dH.acz (.slice ya y.length xK) e0 e0 zQ zQ ?_;refine dH.anyS (.slice (some ⟨g,0,none⟩) (z.length+1+1) cap) ?_;refine dH.anyS (.int .i64 (z.length+1)) ?_;refine dH.anyS (.pointer (some ⟨g,z.length+1,none⟩)) ?_;refine dH.acz (.slice xa x.length uO) e0 e0 zQ zQ ?_;refine dH.anyS (.agg #[.string ⟨#[]⟩,.slice xa x.length uO]) ?_;refine dH.anyS (.int .i64 y.length) ?_;refine dH.acy (.slice (some ⟨wq.heap.size,0,none⟩) 1 1) e0 zQ ?_;refine dH.WQ (.slice (some ⟨g1,0,none⟩) (y.length+1) jB) zQ Ju (FY rfl (by go_simp) (by go_simp) hrun) ?_;refine dH.anyS (.pointer (some ⟨g,z.length,none⟩)) ?_;refine dH.WQ undef Ju Kw (yV (by rw[sK];go_simp)) ?_;refine dH.done ?_;rw[show W (2^ [14,15,17].length-1)=wa from Kw];have xL:w.heap.size<wr.heap.size:=lt_of_some HZ.out
      have CS:wa.heap[w.heap.size]? =some (.cells #[.string ⟨#[]⟩,.slice none 0 0] 64 (0,0)):=by
       rw[sK,kL (by omega),Kv _ (by omega),(hga.old _ xL).1];exact HZ.out
      have SN:Grow w σ wa σ2:=Ev (B:=w.heap.size+1) (WK (hgr.trans hga) f3 f2 (by omega)) (by rw[sK];simpa [World.setCell] using s9) (by rw[sK];exact s10) (by rw[sK];exact s11) (fun b hb=>by rw[sK,kL (by omega)];exact Kv b hb) (by omega);have Ri:l7 wa σ2:=((Az.near hga.near).near f1).near s7;have Ky:σ2 w.heap.size=0:=(f3 _ (by omega)).trans GK
      have SQ:j6 wa σ2 (w.heap.size+1) 62 64 (.slice (some ⟨g,0,none⟩) (z.length+1) cap) (hz++[.slice (some ⟨g1,0,none⟩) (y.length+1) jB]) ((y++[bT])::z).reverse:=by
       rw[wP _ _ _ _ hzl,wP _ _ _ _ (by simp)] at s8;rw[List.reverse_cons];exact s8
      have gne:g1≠w.heap.size:=by omega
      have aiQ:w.heap.size≠g1:=by omega
      have FZ:wa.heap[g1]? =some (.cells qO 64 (0,0)):=by rw[sK,kL s3];exact s4
      have m1:(0:Int)<=(y.length:Int):=by omega
      have m2:(y.length:Int)<(y.length:Int)+1:=by omega
      have d0:wa.cell? ⟨g1,y.length*2,none⟩=some (qO[y.length*2]'(by omega)):=by rw[Lib.cell_of_heap FZ];simp
      have d1:wa.cell? ⟨g1,y.length*2+1,none⟩=some (qO[y.length*2+1]'(by omega)):=by rw[Lib.cell_of_heap FZ];simp
      have dz0:=Lib.frozen_of_heap FZ (y.length*2);have dz1:=Lib.frozen_of_heap FZ (y.length*2+1);obtain⟨t1,t2,t3⟩:=WJ (x:=bq x) (lv:=.slice xa x.length uO) (j:=z.length) (g1:=g1) (jB:=jB) SN.live (by rw[show(hz++[Value.slice (some ⟨g1,0,none⟩) (y.length+1) jB]).length=z.length+1 by simp[hzl]];exact SQ) (by rw[List.reverse_cons,List.getElem?_append_right (by simp),List.length_reverse,Nat.sub_self];rfl) (by rw[List.getElem?_append_right (by omega),hzl,Nat.sub_self];rfl) (f5.mono s7);rw[show(hz++[Value.slice (some ⟨g1,0,none⟩) (y.length+1) jB]).length=z.length+1 by simp[hzl],List.reverse_cons,wP _ _ _ _ (by simp),<-List.reverse_cons] at t2;have hGb:=Ev SN (W:=(wa.setCell ⟨g1,y.length*2,none⟩ (.string ⟨(bq x).aG.toArray⟩)).setCell ⟨g1,y.length*2+1,none⟩ (.slice xa x.length uO)) (by simp[World.setCell]) rfl rfl (fun b hb=>t3 b (by omega)) (Nat.le_succ w.heap.size);have WU:=Ri.near t1;have hRb:=(t3 w.heap.size aiQ).trans CS
      have hsz1:cZ (y++[bq x])=cZ y+(x.length+cZ x):=by
       rw[gM,cZ,cZ,jh,Nat.add_zero]
      have Px:Ko ((y++[bq x])::z)<=2*(i+1):=by
       simp only[Ko,hsz1,List.length_append,List.length_singleton] at WR ⊢;omega
      have H6:∀l∈(y++[bq x])::z,l.length<=c+1:=fun l hl=>by
       rcases List.mem_cons.1 hl with rfl|hl
       ·have:=hlen y (by simp);simp only[List.length_append,List.length_singleton];omega
       ·have:=hlen l (by simp[hl]);omega
      have r0':wa.cell? ⟨w.heap.size,0,none⟩=some (.string ⟨#[]⟩):=by rw[Lib.cell_of_heap CS];rfl
      have r1':wa.cell? ⟨w.heap.size,1,none⟩=some (.slice none 0 0):=by rw[Lib.cell_of_heap CS];rfl
      have z0':=Lib.frozen_of_heap CS 0;have z1':=Lib.frozen_of_heap CS 1;have HST:Aside (j6 ((wa.setCell ⟨g1,y.length*2,none⟩ (.string ⟨(bq x).aG.toArray⟩)).setCell ⟨g1,y.length*2+1,none⟩ (.slice xa x.length uO)) σ2 (w.heap.size+1) 62 64 (.slice (some ⟨g,0,none⟩) (z.length+1) cap) (hz++[.slice (some ⟨g1,0,none⟩) (y.length+1) jB]) ((y++[bq x])::z).reverse):=t2;have Af:Aside (((wa.setCell ⟨g1,y.length*2,none⟩ (.string ⟨(bq x).aG.toArray⟩)).setCell ⟨g1,y.length*2+1,none⟩ (.slice xa x.length uO)).heap[w.heap.size]? =some (.cells #[.string ⟨#[]⟩,.slice none 0 0] 64 (0,0))):=hRb;clear e0 zQ Ju Kw sK s1 s2 s3 s4 s6 s7 s8 SQ s9 s10 s11 s12 s13 Kv hrun yq xq xI f6 f5 f4 Cx hst CS hRb t1 t2 t3 r0 r1 z0 z1 yc xc yf ano aiP b2 d2
      have acD:¬(15:Int)<(z.length:Int)+1:=by omega
      by_cases hl2:1800<c+1
      ·have Nj:(1800:Int)<(c:Int)+1:=by omega
       go_wp2
       have hG:=pX (x:=.string ⟨#[]⟩) (y:=.slice none 0 0) hGb WU (Nat.le_refl _) Ky;refine pY (R:=w.heap.size) rfl rfl (pW Af.out) (yD ?_ hG.1 hG.2.1);rw[<-HN.out,if_pos hl2]
      ·have Nj:¬(1800:Int)<(c:Int)+1:=by omega
       have WS:Aside (iP (s.drop (i+1)) ((y++[bq x])::z) (c+1)=iP s [[]] 0):=by
        have:=HN.out;rw[if_neg hl2] at this;exact this
       go_wp2
       go_roundg k
       case measure=>omega
       case rel=>
        exact⟨(y++[bq x])::z,σ2,i+1,c+1,g,cap,_,rfl,rfl,rfl,by simp[hzl],by simp,by simp only[List.length_cons];omega,by omega,by omega,WS.out,HST.out,hGb,WU,H6,Px,Ky,Af.out⟩
   have n41:¬b.toNat=41:=fun e=>SI (UInt8.toNat_inj.1 e);have q41:((b.toNat:Int)==41)=false:=beq_false_of_ne (by omega);have q32:((b.toNat:Int)==32)=false:=beq_false_of_ne (by omega);have q10:((b.toNat:Int)==10)=false:=beq_false_of_ne (by omega);have q40:((b.toNat:Int)==40)=false:=beq_false_of_ne (by omega);clear n41 n32 n10 n40;have HBL:Aside (lT b=false/\b≠40/\b≠41):=⟨Ku,Pn,SI⟩;clear Ku Pn SI;have hc:=Dp (Ct b) hgr.live Az (ank b)
   have hc:Calls prog 52 #[.int .u8 b.toNat] wr fun e w'=>e=.returned (.bool (bK b))/\∃σ',Grow wr σ1 w' σ'/\l7 w' σ':=
    hc.mono fun e w' ⟨v,σ',he,xG,hg,hgl⟩=>by
     obtain rfl:v=.bool (bK b):=by cases xG.1;rfl
     exact⟨he,σ',hg,hgl⟩
   have xL:w.heap.size<wr.heap.size:=lt_of_some HZ.out
   cases hat:bK b with
   |false=>
    rw[hat] at hc;have HN:Aside (none=iP s [[]] 0):=(aiN _ _ _ HBL.out.1 HBL.out.2.1 HBL.out.2.2 hat).symm.trans HA.out;clear hat hst hlr
    go_wp2_with (go_at_call 52;refine hc.mono ?_)
    rintro e w1 ⟨rfl,σ2,hg2,Ni⟩;have GL:=(hg2.old _ xL).1.trans HZ.out
    have r0':w1.cell? ⟨w.heap.size,0,none⟩=some (.string ⟨#[]⟩):=by rw[Lib.cell_of_heap GL];rfl
    have r1':w1.cell? ⟨w.heap.size,1,none⟩=some (.slice none 0 0):=by rw[Lib.cell_of_heap GL];rfl
    have z0':=Lib.frozen_of_heap GL 0;have z1':=Lib.frozen_of_heap GL 1;have Af:Aside (w1.heap[w.heap.size]? =some (.cells #[.string ⟨#[]⟩,.slice none 0 0] 64 (0,0))):=GL;clear GL r0 r1 z0 z1
    go_wp2
    have hG:=pX (x:=.string ⟨#[]⟩) (y:=.slice none 0 0) (hgr.trans hg2) Ni (Nat.le_refl _) (((hg2.old _ xL).2).trans GK);exact pY (R:=w.heap.size) rfl rfl (pW Af.out) (yD HN.out.symm hG.1 hG.2.1)
   |true=>
    obtain⟨x,z,rfl⟩:∃x z,rows=x::z:=by
     match rows,e2 with
     |x::z,_=>exact⟨x,z,rfl⟩
    rw[hat] at hc;have hwd:=fun e=>afr (s:=s) (i:=i) (e:=e) x z c HD.out hat
    have HWD:Aside (∀e,i<e->(∀a∈(s.drop i).take (e-i),bK a=true)->(e=s.length\/∃a,s[e]? =some a/\bK a=false)->(if 1800<c+1 then none else iP (s.drop e) ((x++[bF ((s.take e).drop i)])::z) (c+1))=iP s [[]] 0):=
     fun e h1 h2 h3=>(hwd e h1 h2 h3).symm.trans HA.out
    have HAT:Aside (bK b=true):=hat;clear hwd hat HBL
    simp only[List.length_cons] at *
    obtain⟨wo,rfl⟩:∃wo,wo=wr:=⟨_,rfl⟩
    go_wp2_with (go_at_call 52;refine hc.mono ?_)
    rintro e w1 ⟨rfl,σ2,hg2,Ni⟩
    go_wp2
    go_loopg [9] (s.length-i) (fun k v9 wx=>∃e:Nat,v9=.int .i64 e/\e+k=s.length/\i<=e/\(∀a∈(s.drop i).take (e-i),bK a=true)/\∃σx,Grow wo σ1 wx σx/\l7 wx σx)
    case atStart=>exact⟨i,rfl,by omega,Nat.le_refl _,by simp,σ2,hg2,Ni⟩
    case round=>
     obtain⟨e,rfl,g1,g2,g3,σx,g4,g5⟩:=hrel;rcases(by cases gk<;>simp:gk=0\/∃k2,gk=k2+1) with rfl|⟨k2,rfl⟩
     focus
      have HES:Aside (e=s.length):=by show e=s.length;omega
      have hne:¬(e:Int)<(s.length:Int):=by omega
      go_wp2
      refine Nh fun wq hwq=> ?_;obtain⟨σq,WV,ant⟩:∃σq,Grow wo σ1 wq σq/\l7 wq σq:=⟨σx,by rw[hwq];exact g4,by rw[hwq];exact g5⟩;clear hwq;have HW:=HWD.out e (by have:=HES.out;omega) g3 (.inl HES.out)
      have hie:i<e:=by have:=HES.out;omega
     rotate_left
     focus
      have hel:e<s.length:=by omega
      obtain⟨b2,hb2⟩:∃b2,s[e]=b2:=⟨_,rfl⟩;have hx2:((⟨s.toArray⟩:ByteArray)[e]'(Rh hel)).toNat=b2.toNat:=congrArg UInt8.toNat ((byte_at hel).trans hb2)
      have HB2:Aside (s[e]? =some b2):=by
       show s[e]? =some b2;rw[List.getElem?_eq_getElem hel,hb2]
      clear hb2;have hc2:=Dp (Ct b2) g4.live g5 (ank b2)
      have hc2:Calls prog 52 #[.int .u8 b2.toNat] wr fun e w'=>e=.returned (.bool (bK b2))/\∃σ',Grow wr σx w' σ'/\l7 w' σ':=
       hc2.mono fun e w' ⟨v,σ',he,xG,hg,hgl⟩=>by
        obtain rfl:v=.bool (bK b2):=by cases xG.1;rfl
        exact⟨he,σ',hg,hgl⟩
      cases Rj:bK b2
     focus
      rw[Rj] at hc2;have acE:Aside (bK b2=false):=Rj;clear Rj
      go_wp2_with (go_at_call 52;refine hc2.mono ?_)
      rintro e' w2 ⟨rfl,σ3,hg3,aiR⟩
      go_wp2
      refine Nh fun wq hwq=> ?_;obtain⟨σq,WV,ant⟩:∃σq,Grow wo σ1 wq σq/\l7 wq σq:=⟨σ3,by rw[hwq];exact g4.trans hg3,by rw[hwq];exact aiR⟩;clear hwq
      have hie:i<e:=by
       rcases Nat.lt_or_ge i e with h|h
       ·exact h
       ·have he:e=i:=by omega
        have h1:=HB2.out;rw[he,List.getElem?_eq_getElem hi,HB.out] at h1;cases h1;have:=acE.out;rw[HAT.out] at this;cases this
      have HW:=HWD.out e hie g3 (.inr ⟨b2,HB2.out,acE.out⟩)
     rotate_left
     ·rw[Rj] at hc2;have acE:Aside (bK b2=true):=Rj;clear Rj
      go_wp2_with (go_at_call 52;refine hc2.mono ?_)
      rintro e' w2 ⟨rfl,σ3,hg3,aiR⟩
      go_wp2
      go_roundg k2
      case measure=>omega
      case rel=>
       refine⟨e+1,rfl,by omega,by omega,fun a ha=> ?_,σ3,g4.trans hg3,aiR⟩;rw[show e+1-i=(e-i)+1 by omega,List.take_add_one,List.getElem?_drop,show i+(e-i)=e by omega,HB2.out] at ha;rcases List.mem_append.1 ha with ha|ha
       ·exact g3 a ha
       ·simp at ha;subst ha;exact acE.out
     all_goals
      replace HW:Aside ((if 1800<c+1 then none else iP (s.drop e) ((x++[bF ((s.take e).drop i)])::z) (c+1))=iP s [[]] 0):=HW
      have HWL:Aside (((s.take e).drop i).length=e-i):=by
       show((s.take e).drop i).length=e-i;rw[List.length_drop,List.length_take];omega
      obtain⟨hz,xv,rfl,hzl⟩:∃hz xv,hv=hz++[xv]/\hz.length=z.length:=⟨hv.take z.length,hv[z.length]'(by omega),by
       conv=>lhs;rw[<-List.take_append_drop z.length hv]
       rw[List.drop_eq_getElem_cons (by omega),List.drop_eq_nil_of_le (by omega)],by simp;omega⟩
      have Cx:j6 wq σq (w.heap.size+1) 62 64 (.slice (some ⟨g,0,none⟩) (z.length+1) cap) (hz++[xv]) (z.reverse++[x]):=by
       have:=hst.grow WV;simpa using this
      obtain⟨xv',d1,d2,d3⟩:=Cx.rows z.length x (by simp);rw[List.getElem?_append_right (by omega),hzl,Nat.sub_self] at d1
      obtain rfl:xv=xv':=by simpa using d1
      obtain⟨xa,uO,rfl,_⟩:=IL d2;clear d1 d2 d3;obtain⟨iS,hiS,hzS,hsS,hbS⟩:=info_parts aft
      have hxl:x.length<=1800:=by have:=hlen x (by simp);omega
      have hBq:w.heap.size+1<=wq.heap.size:=by have:=hgB.1;have:=hgB.2;have:=WV.size;omega
      have xq:wq.cell? ⟨g,z.length,none⟩=some (.slice xa x.length uO):=wQ Cx (j:=z.length) (by rw[List.getElem?_append_right (by omega),hzl,Nat.sub_self];rfl);obtain⟨q1,jB,w5,hrun,s1,s2,s3,⟨qO,s4,s5⟩,s6,s7,s8,s9,s10,s11,s12,s13,Kv⟩:=Ew (P:=prog) (j:=z.length) 62 underlying62 hiS hzS hsS hbS WV.live hBq Cx (by simp;omega) (y:=x) (by simp) (by rw[List.getElem?_append_right (by omega),hzl,Nat.sub_self];rfl) (by omega) bT (u:=.string ⟨#[]⟩) (lv:=.slice none 0 0) rfl (.nil _ _) rfl 64;obtain⟨wa,sK⟩:∃wa,wa=w5.setCell ⟨g,z.length,none⟩ (.slice (some ⟨q1,0,none⟩) (x.length+1) jB):=⟨_,rfl⟩;rw[<-sK] at s7 s8;obtain⟨w7,hw7⟩:∃w7,w7=(w5.setCell ⟨q1,x.length*2,none⟩ (.string ⟨((s.take e).drop i).toArray⟩)).setCell ⟨q1,x.length*2+1,none⟩ (.slice none 0 0):=⟨_,rfl⟩;obtain⟨wb,hwb⟩:∃wb,wb=(wa.setCell ⟨q1,x.length*2,none⟩ (.string ⟨((s.take e).drop i).toArray⟩)).setCell ⟨q1,x.length*2+1,none⟩ (.slice none 0 0):=⟨_,rfl⟩
      have hcm:w7.setCell ⟨g,z.length,none⟩ (.slice (some ⟨q1,0,none⟩) (x.length+1) jB)=wb:=by
       rw[hw7,hwb,sK,set_comm (Ne.symm s3),set_comm (Ne.symm s3)]
      have s1':w7.cell? ⟨g,z.length,none⟩=some (.slice xa x.length uO):=by
       rw[<-s1];exact World.cell?_of_block (by rw[hw7];exact(kL (Ne.symm s3)).trans (kL (Ne.symm s3)))
      have s2':w7.frozen? ⟨g,z.length,none⟩=false:=by
       rw[<-s2];exact World.frozen?_of_block (by rw[hw7];exact(kL (Ne.symm s3)).trans (kL (Ne.symm s3)))
      have FZ:wa.heap[q1]? =some (.cells qO 64 (0,0)):=by rw[sK,kL s3];exact s4
      have xq1:(wq.alloc (.cells #[.string ⟨#[]⟩,.slice none 0 0] 64)).cell? ⟨g,z.length,none⟩=some (.slice xa x.length uO):=acs _ xq
      have m1:(0:Int)<=(x.length:Int):=by omega
      have m2:(x.length:Int)<(x.length:Int)+1:=by omega
      have m3:(0:Int)<=(z.length:Int):=by omega
      have m4:(z.length:Int)<(z.length:Int)+1:=by omega
      have m5:(0:Int)<=(i:Int):=by omega
      have m6:(i:Int)<=(e:Int):=by omega
      have m7:(e:Int)<=(s.length:Int):=by omega
      have d0:wa.cell? ⟨q1,x.length*2,none⟩=some (qO[x.length*2]'(by omega)):=by rw[Lib.cell_of_heap FZ];simp
      have d1:wa.cell? ⟨q1,x.length*2+1,none⟩=some (qO[x.length*2+1]'(by omega)):=by rw[Lib.cell_of_heap FZ];simp
      have dz0:=Lib.frozen_of_heap FZ (x.length*2);have dz1:=Lib.frozen_of_heap FZ (x.length*2+1)
      have c0:w5.cell? ⟨q1,x.length*2,none⟩=some (qO[x.length*2]'(by omega)):=by rw[Lib.cell_of_heap s4];simp
      have c1:w5.cell? ⟨q1,x.length*2+1,none⟩=some (qO[x.length*2+1]'(by omega)):=by rw[Lib.cell_of_heap s4];simp
      have cz0:=Lib.frozen_of_heap s4 (x.length*2);have cz1:=Lib.frozen_of_heap s4 (x.length*2+1)
      obtain⟨W,e0,zQ,Ju,Kw,aiS,acF⟩:∃W:Nat->World,W 0=wq.drew/\W 1=wq.drew.alloc (.cells #[.string ⟨#[]⟩,.slice none 0 0] 64)/\W 3=w5/\W 7=w7/\W 11=wa/\W 15=wb:=
       ⟨fun m=>if m=0 then wq.drew else if m=1 then wq.drew.alloc (.cells #[.string ⟨#[]⟩,.slice none 0 0] 64) else if m=3 then w5 else if m=7 then w7 else if m=11 then wa else wb,rfl,rfl,rfl,rfl,rfl,rfl⟩
      refine IK 152 [10,11,13,15] [[0,1],[0,1],[0,1],[0,1],[0,1],[0,1],[0,1],[0,1],[0,1],[0,1],[0],[1],[3,11],[3,11],[3,7],[3,7]] W (by kernel_rfl) (by kernel_rfl) rfl e0 ?_;refine dH.anyS (.slice (some ⟨g,0,none⟩) (z.length+1) cap) ?_;refine dH.anyS (.int .i64 z.length) ?_;refine dH.anyS (.pointer (some ⟨g,z.length,none⟩)) ?_;refine dH.acz (.slice xa x.length uO) e0 e0 zQ zQ ?_;refine dH.anyS (.string ⟨s.toArray⟩) ?_;refine dH.anyS (.int .i64 i) ?_;refine dH.anyS (.int .i64 e) ?_;refine dH.any (.string ⟨((s.take e).drop i).toArray⟩) rfl (fun w=>Ey (by go_simp;exact aln s i e)) ?_;refine dH.anyS (.agg #[.string ⟨((s.take e).drop i).toArray⟩,.slice none 0 0]) ?_;refine dH.anyS (.int .i64 x.length) ?_;refine dH.acy (.slice (some ⟨wq.heap.size,0,none⟩) 1 1) e0 zQ ?_;refine dH.WQ (.slice (some ⟨q1,0,none⟩) (x.length+1) jB) zQ Ju (FY rfl (by go_simp) (by go_simp) hrun) ?_;refine dH.anyS (.pointer (some ⟨q1,x.length*2,none⟩)) ?_;refine dH.at2 undef Ju Kw aiS acF (yV (by rw[hw7];go_simp)) (yV (by rw[hwb];go_simp)) ?_;refine dH.anyS (.pointer (some ⟨g,z.length,none⟩)) ?_;refine dH.at2 undef Ju aiS Kw acF (yV (by rw[sK];go_simp)) (yV (by rw[<-hcm];go_simp)) ?_;refine dH.done ?_;rw[show W (2^ [10,11,13,15].length-1)=wb from acF];have xL:w.heap.size<wo.heap.size:=lt_of_some HZ.out
      have CS:wa.heap[w.heap.size]? =some (.cells #[.string ⟨#[]⟩,.slice none 0 0] 64 (0,0)):=by
       rw[sK,kL (by omega),Kv _ (by omega),(WV.old _ xL).1];exact HZ.out
      have SN:Grow w σ wa σq:=Ev (B:=w.heap.size+1) (hgr.trans WV) (by rw[sK];simpa [World.setCell] using s9) (by rw[sK];exact s10) (by rw[sK];exact s11) (fun b hb=>by rw[sK,kL (by omega)];exact Kv b hb) (by omega);have Ri:l7 wa σq:=ant.near s7;have Ky:σq w.heap.size=0:=(WV.old _ xL).2.trans GK
      have SQ:j6 wa σq (w.heap.size+1) 62 64 (.slice (some ⟨g,0,none⟩) (z.length+1) cap) (hz++[(.slice (some ⟨q1,0,none⟩) (x.length+1) jB)]) ((x++[bT])::z).reverse:=by
       rw[wP _ _ _ _ hzl,wP _ _ _ _ (by simp)] at s8;rw[List.reverse_cons];exact s8
      have gne:q1≠w.heap.size:=by omega
      have aiQ:w.heap.size≠q1:=by omega
      obtain⟨t1,t2,t3⟩:=WJ (x:=bF ((s.take e).drop i)) (lv:=.slice none 0 0) (j:=z.length) (g1:=q1) (jB:=jB) SN.live (by rw[show(hz++[Value.slice (some ⟨q1,0,none⟩) (x.length+1) jB]).length=z.length+1 by simp[hzl]];exact SQ) (by rw[List.reverse_cons,List.getElem?_append_right (by simp),List.length_reverse,Nat.sub_self];rfl) (by rw[List.getElem?_append_right (by omega),hzl,Nat.sub_self];rfl) (.nil _ _);rw[show(hz++[Value.slice (some ⟨q1,0,none⟩) (x.length+1) jB]).length=z.length+1 by simp[hzl],List.reverse_cons,wP _ _ _ _ (by simp),<-List.reverse_cons] at t2
      have t3':∀b,b≠q1->wb.heap[b]? =wa.heap[b]? :=by rw[hwb];exact t3
      have hGb:Grow w σ wb σq:=Ev SN (by rw[hwb];simp[World.setCell]) (by rw[hwb];rfl) (by rw[hwb];rfl) (fun b hb=>t3' b (by omega)) (Nat.le_succ w.heap.size)
      have WU:l7 wb σq:=by rw[hwb];exact Ri.near t1
      have hRb:=(t3' w.heap.size aiQ).trans CS
      have HST:Aside (j6 wb σq (w.heap.size+1) 62 64 (.slice (some ⟨g,0,none⟩) (z.length+1) cap) (hz++[(.slice (some ⟨q1,0,none⟩) (x.length+1) jB)]) ((x++[bF ((s.take e).drop i)])::z).reverse):=by
       show j6 wb _ _ _ _ _ _ _;rw[hwb];exact t2
      have hsz1:cZ (x++[bF ((s.take e).drop i)])=cZ x+(e-i):=by
       rw[gM,cZ,cZ,jI,Nat.add_zero,HWL.out]
      have Px:Ko ((x++[bF ((s.take e).drop i)])::z)<=2*e:=by
       simp only[Ko,hsz1,List.length_append,List.length_singleton] at WR ⊢;omega
      have H6:∀l∈(x++[bF ((s.take e).drop i)])::z,l.length<=c+1:=fun l hl=>by
       rcases List.mem_cons.1 hl with rfl|hl
       ·have:=hlen x (by simp);simp only[List.length_append,List.length_singleton];omega
       ·have:=hlen l (by simp[hl]);omega
      have r0':wb.cell? ⟨w.heap.size,0,none⟩=some (.string ⟨#[]⟩):=by rw[Lib.cell_of_heap hRb];rfl
      have r1':wb.cell? ⟨w.heap.size,1,none⟩=some (.slice none 0 0):=by rw[Lib.cell_of_heap hRb];rfl
      have z0':=Lib.frozen_of_heap hRb 0;have z1':=Lib.frozen_of_heap hRb 1;have Af:Aside (wb.heap[w.heap.size]? =some (.cells #[.string ⟨#[]⟩,.slice none 0 0] 64 (0,0))):=hRb;clear e0 zQ Ju Kw aiS acF hcm d0 d1 dz0 dz1 c0 c1 cz0 cz1 FZ s1' s2' hwb hw7 sK s1 s2 s3 s4 s6 s7 s8 SQ s9 s10 s11 s12 s13 Kv hrun xq xq1 Cx hst CS hRb t1 t2 t3 t3' r0 r1 z0 z1
      have acD:¬(15:Int)<(z.length:Int)+1:=by omega
      by_cases hl2:1800<c+1
      ·have Nj:(1800:Int)<(c:Int)+1:=by omega
       go_wp2
       have hG:=pX (x:=.string ⟨#[]⟩) (y:=.slice none 0 0) hGb WU (Nat.le_refl _) Ky;refine pY (R:=w.heap.size) rfl rfl (pW Af.out) (yD ?_ hG.1 hG.2.1);rw[<-HW.out,if_pos hl2]
      ·have Nj:¬(1800:Int)<(c:Int)+1:=by omega
       have WS:Aside (iP (s.drop e) ((x++[bF ((s.take e).drop i)])::z) (c+1)=iP s [[]] 0):=by
        have:=HW.out;rw[if_neg hl2] at this;exact this
       go_wp2
       go_roundg (s.length-e)
       case measure=>omega
       case rel=>
        exact⟨(x++[bF ((s.take e).drop i)])::z,σq,e,c+1,g,cap,_,rfl,rfl,rfl,by simp[hzl],by simp,by simp only[List.length_cons];omega,by omega,by omega,WS.out,HST.out,hGb,WU,H6,Px,Ky,Af.out⟩
end Go.Ab