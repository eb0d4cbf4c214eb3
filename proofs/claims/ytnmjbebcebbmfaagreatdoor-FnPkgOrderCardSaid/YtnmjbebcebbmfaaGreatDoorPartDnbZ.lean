/-
  SEVERAL TEXTS IN ONE (merged by program): contracts and models, each with its own heading.
-/
import Derived.Test.YtnmjbebcebbmfaaGreatDoorPartDnbM
set_option linter.unusedSimpArgs false
set_option linter.unusedVariables false
namespace Go.Ab
def mq(b:UInt8):Bool:=decide (b.toNat=32)||decide (b.toNat=10)
def gI(l:List UInt8):List UInt8:=l.dropWhile mq
theorem BX(l:List UInt8):gI l <:+ l:=eS _
theorem Ei(l:List UInt8):(gI l).length<=l.length:=(BX l).length_le
theorem afR{l u:List UInt8}{b:UInt8}(h:gI l=b::u):mq b=false:=by
 induction l with
 |nil=>cases h
 |cons a l ih=>
  unfold gI at h ih;rw[eM] at h;split at h
  ·exact ih h
  ·rename_i h1;injection h with h2 h3;subst h2;simpa using h1
theorem tX{b:UInt8}{u:List UInt8}(h:mq b=false):gI (b::u)=b::u:=by
 unfold gI;rw[eM,h];rfl
theorem FK{b:UInt8}{u:List UInt8}(h:mq b=true):gI (b::u)=gI u:=by
 unfold gI;rw[eM,h];rfl
theorem Nf{b:UInt8}(h:bV b=true):mq b=false/\b≠40/\b≠41:=by
 refine⟨?_,fun e=> ?_,fun e=> ?_⟩
 ·cases hb:mq b with
  |false=>rfl
  |true=>
   unfold mq at hb;unfold bV at h;simp only[dk,decide_eq_true_eq] at hb h;rcases hb with hb|hb
   ·obtain rfl:b=32:=gm.1 hb;revert h;decide
   ·obtain rfl:b=10:=gm.1 hb;revert h;decide
 ·subst e;revert h;decide
 ·subst e;revert h;decide
structure RS where
 t:List UInt8
 deep:Nat
 size:Nat
 bad:Bool
mutual
def lZ:Nat->RS->ah×RS
 |0,r=>(cZ,⟨r.t,r.deep,r.size+1,true⟩)
 |n+1,r=>match gI r.t with
  |[]=>(cZ,⟨[],r.deep,r.size+1,true⟩)
  |b::u=>if 900<r.size+1 then(cZ,⟨b::u,r.deep,r.size+1,true⟩) else
   if bV b=true then(bN (b::u.takeWhile bV),⟨u.dropWhile bV,r.deep,r.size+1,false⟩) else
   if b≠40\/r.deep=14 then(cZ,⟨b::u,r.deep,r.size+1,true⟩) else sK n ⟨u,r.deep+1,r.size+1,false⟩ []
def sK:Nat->RS->List ah->ah×RS
 |0,r,acc=>(bL acc,⟨r.t,r.deep,r.size,true⟩)
 |n+1,r,acc=>if r.bad=true then(bL acc,r) else
  if(gI r.t).head? =some 41 then(bL acc,⟨(gI r.t).tail,r.deep-1,r.size,false⟩) else
  sK n (lZ n ⟨gI r.t,r.deep,r.size,false⟩).2 (acc++[(lZ n ⟨gI r.t,r.deep,r.size,false⟩).1])
end
structure avR(x:ah)(r r':RS):Prop where
 suf:r'.t <:+ r.t
 deep:r'.bad=false->r'.deep=r.deep
 low:r'.deep<=14
 size:r.size+1<=r'.size/\r'.size<=901
 sz:x.sz+1<=(r.t.length-r'.t.length)+(r'.size-r.size)
 go:r'.bad=false->r'.t.length<r.t.length/\r'.size<=900
structure avS(acc:List ah)(x:ah)(r r':RS):Prop where
 suf:r'.t <:+ r.t
 deep:r'.bad=false->r'.deep=r.deep-1/\r.bad=false/\r'.size<=900
 low:r'.deep<=14
 size:r.size<=r'.size/\r'.size<=901
 sz:∃l,x=bL (acc++l)/\l.length+dx l<=(r.t.length-r'.t.length)+(r'.size-r.size)/\l.length<=r'.size-r.size
theorem UD:∀n:Nat,(∀r:RS,r.deep<=14->r.size<=900->avR (lZ n r).1 r (lZ n r).2)/\
 (∀(r:RS) (acc:List ah),r.deep<=14->r.size<=901->(r.bad=false->1<=r.deep/\r.size<=900)->avS acc (sK n r acc).1 r (sK n r acc).2)
 |0=>by
  refine⟨fun r h1 h2=> ?_,fun r acc h1 h2 h3=> ?_⟩
  ·rw[lZ];exact⟨ge _,(fun h=>by cases h),h1,⟨ax _,gC⟩,by simp[cZ,iM,ah.aI,ah.aj,aS],(fun h=>by cases h)⟩
  ·rw[sK];exact⟨ge _,(fun h=>by cases h),h1,⟨ax _,h2⟩,[],by rw[bm],by simp[dx],gL⟩
 |n+1=>by
  obtain⟨ih1,ih2⟩:=UD n
  have z0:cZ.sz=0:=by simp[cZ,iM,ah.aI,ah.aj,aS]
  refine⟨fun r h1 h2=> ?_,fun r acc h1 h2 h3=> ?_⟩
  ·rw[lZ];have hs:=BX r.t;split
   ·rename_i e;rw[e] at hs;exact⟨hs,(fun h=>by cases h),h1,⟨ax _,gC⟩,by simp only[z0];omega,(fun h=>by cases h)⟩
   ·rename_i b u e;rw[e] at hs;have hl:=hs.length_le;rw[aa] at hl;split
    ·exact⟨hs,(fun h=>by cases h),h1,⟨ax _,gC⟩,by simp only[z0];omega,(fun h=>by cases h)⟩
    ·split
     ·have hd:u.dropWhile bV <:+ u:=eS _;have hdl:=hd.length_le
      have htd:(u.takeWhile bV).length+(u.dropWhile bV).length=u.length:=by
       rw[<-ae,List.takeWhile_append_dropWhile]
      refine⟨(hd.trans (gf b u)).trans hs,fun _=>rfl,h1,⟨ax _,gC⟩,?_,fun _=> ?_⟩
      ·rw[jY,aa];simp only;omega
      ·simp only;omega
     ·split
      ·exact⟨hs,(fun h=>by cases h),h1,⟨ax _,gC⟩,by simp only[z0];omega,(fun h=>by cases h)⟩
      ·have hc:=ih2 ⟨u,r.deep+1,r.size+1,false⟩ [] gC gC (fun _=>gC);obtain⟨c1,c2,c3,c4,l,c5,c6,c7⟩:=hc;have c8:=c1.length_le;simp only at c1 c2 c4 c6 c7 c8;refine⟨(c1.trans (gf b u)).trans hs,fun h=>by rw[(c2 h).1];omega,c3,⟨gA,c4.2⟩,?_,fun h=>⟨gA,(c2 h).2.2⟩⟩;rw[c5,bc,jH];omega
  ·rw[sK];have hs:=BX r.t;have hl:=hs.length_le;split
   ·exact⟨ge _,(fun h=>by rename_i hb;rw[hb] at h;cases h),h1,⟨ax _,h2⟩,[],by rw[bm],by simp[dx],gL⟩
   ·rename_i hb
    have hb':r.bad=false:=by simpa using hb
    have h3':=h3 hb';split
    ·have ht:(gI r.t).tail <:+ gI r.t:=List.tail_suffix _;refine⟨ht.trans hs,fun _=>⟨rfl,hb',h3'.2⟩,gC,⟨ax _,h2⟩,[],by rw[bm],by simp[dx],gL⟩
    ·have hc:=ih1 ⟨gI r.t,r.deep,r.size,false⟩ h1 h3'.2;obtain⟨x,hx⟩:∃x,x=lZ n ⟨gI r.t,r.deep,r.size,false⟩:=⟨_,rfl⟩;rw[<-hx] at hc ⊢;clear hx;obtain⟨c1,c2,c3,c4,c5,c6⟩:=hc;simp only at c1 c2 c4 c5 c6;have c7:=c1.length_le;obtain⟨d1,d2,d3,d4,l,d5,d6,d7⟩:=ih2 x.2 (acc++[x.1]) c3 c4.2 (fun hq=>⟨by rw[c2 hq];exact h3'.1,(c6 hq).2⟩);have d8:=d1.length_le;refine⟨(d1.trans c1).trans hs,fun hq=>⟨by rw[(d2 hq).1,c2 (d2 hq).2.1],hb',(d2 hq).2.2⟩,d3,⟨gA,d4.2⟩,x.1::l,by rw[d5,cf];rfl,?_,?_⟩
     ·rw[aa,dx];omega
     ·rw[aa];omega
inductive Tok where
 |op
 |cl
 |wd (b:UInt8) (u:List UInt8)
 |no
def Jg:Nat->List UInt8->List Tok
 |0,_=>[]
 |n+1,l=>match gI l with
  |[]=>[]
  |b::u=>if bV b=true then .wd b (u.takeWhile bV)::Jg n (u.dropWhile bV) else if b=40 then .op::Jg n u else if b=41 then .cl::Jg n u else [.no]
theorem Ox:∀(n m:Nat)(l:List UInt8),l.length<n->l.length<m->Jg n l=Jg m l
 |0,m,l,h,_=>by omega
 |n+1,0,l,_,h=>by omega
 |n+1,m+1,l,h1,h2=>by
  rw[Jg,Jg];have hs:=Ei l;split
  ·rfl
  ·rename_i b u e;rw[e,aa] at hs;have hd:(u.dropWhile bV).length<=u.length:=(eS bV).length_le;rw[Ox n m u gA gA,Ox n m (u.dropWhile bV) gA gA]
def lex(l:List UInt8):List Tok:=Jg (l.length+1) l
theorem lex_nil{l:List UInt8}(h:gI l=[]):lex l=[]:=by
 unfold lex;rw[Jg,h]
theorem lJ{l u:List UInt8}{b:UInt8}(h:gI l=b::u):lex l=if bV b=true then .wd b (u.takeWhile bV)::lex (u.dropWhile bV) else if b=40 then .op::lex u else if b=41 then .cl::lex u else [.no]:=by
 have hs:=Ei l;rw[h,aa] at hs;have hd:(u.dropWhile bV).length<=u.length:=(eS bV).length_le;unfold lex;rw[Jg,h]
 simp only
 rw[Ox _ (u.length+1) u gA gA,Ox _ ((u.dropWhile bV).length+1) (u.dropWhile bV) gA gA]
theorem yT(l:List UInt8):lex (gI l)=lex l:=by
 cases h:gI l with
 |nil=>rw[lex_nil h];rfl
 |cons b u=>rw[lJ h,lJ (l:=b::u) (tX (afR h))]
theorem apt{l:List UInt8}(h:lex l=[]):gI l=[]:=by
 cases e:gI l with
 |nil=>rfl
 |cons b u=>
  rw[lJ e] at h;split at h
  ·cases h
  ·split at h
   ·cases h
   ·split at h<;>cases h
mutual
def rD:ah->List Tok
 | .mk [] l=>.op::j6 l++[.cl]
 | .mk (b::u) _=>[.wd b u]
def j6:List ah->List Tok
 |[]=>[]
 |x::xs=>rD x++j6 xs
end
theorem EJ:∀a b,j6 (a++b)=j6 a++j6 b
 |[],b=>rfl
 |x::a,b=>by rw[ba,j6,j6,EJ a b,cf]
theorem SS(l:List ah):rD (bL l)=.op::j6 l++[.cl]:=by unfold bL;rw[rD]
theorem SV(b:UInt8)(u:List UInt8):rD (bN (b::u))=[.wd b u]:=by unfold bN;rw[rD]
theorem SX:∀n:Nat,(∀r:RS,(lZ n r).2.bad=false->lex r.t=rD (lZ n r).1++lex (lZ n r).2.t)/\
 (∀(r:RS) (acc:List ah),(sK n r acc).2.bad=false->∃l,(sK n r acc).1=bL (acc++l)/\lex r.t=j6 l++ .cl::lex (sK n r acc).2.t)
 |0=>⟨fun r h=>(by rw[lZ] at h;cases h),fun r acc h=>(by rw[sK] at h;cases h)⟩
 |n+1=>by
  obtain⟨ih1,ih2⟩:=SX n;refine⟨fun r h=> ?_,fun r acc h=> ?_⟩
  ·rw[lZ] at h ⊢;split at h
   ·cases h
   ·rename_i b u e;split at h
    ·cases h
    ·rename_i h1;rw[lJ e];simp only[h1,if_false];split at h
     ·rename_i h2;rw[if_pos h2];simp only[h2,if_true];rw[SV];rfl
     ·rename_i h2;split at h
      ·cases h
      ·rename_i h3;have hb:b=40:=Classical.byContradiction fun hb=>h3 (.inl hb);simp only[if_neg h2,if_neg h3,if_pos hb];obtain⟨l,q1,q2⟩:=ih2 _ [] h;rw[q1,bc,SS];simp only at q2;rw[q2]
       simp
  ·rw[sK] at h ⊢;split at h
   ·rename_i hb;rw[hb] at h;cases h
   ·rename_i hb;rw[if_neg hb];split at h
    ·rename_i h1;rw[if_pos h1];refine⟨[],by rw[bm],?_⟩
     cases e:gI r.t with
     |nil=>rw[e] at h1;cases h1
     |cons b u=>
      rw[e] at h1
      have hb:b=41:=by simpa using h1
      subst hb;rw[lJ e];rfl
    ·rename_i h1;rw[if_neg h1];obtain⟨l,q1,q2⟩:=ih2 _ _ h
     have hx:(lZ n ⟨gI r.t,r.deep,r.size,false⟩).2.bad=false:=by
      cases hq:(lZ n ⟨gI r.t,r.deep,r.size,false⟩).2.bad with
      |false=>rfl
      |true=>
       exfalso;revert h
       cases n with
       |zero=>rw[sK];simp
       |succ n=>rw[sK,if_pos hq,hq];simp
     have h2:=ih1 _ hx;simp only at h2;rw[yT] at h2;refine⟨(lZ n ⟨gI r.t,r.deep,r.size,false⟩).1::l,by rw[q1,cf];rfl,?_⟩;rw[h2,q2,j6,cf]
mutual
theorem Wd:∀(x:ah),iG x=true->∀(r:RS)(k:List Tok),lex r.t=rD x++k->r.size+jC x<=900->r.deep+lN x<=14->
 ∃(N:Nat) (u:List UInt8),lex u=k/\∀n,N<=n->lZ n r=(x,⟨u,r.deep,r.size+jC x,false⟩)
 | .mk a l=>fun hf r k hk hn hd=>by
   cases a with
   |nil=>
    rw[rD] at hk
    have hf':jo l=true:=by rw[iG,if_pos rfl] at hf;exact hf
    have hn':r.size+(kH l+1)<=900:=by rw[jC] at hn;exact hn
    have hd':r.deep+(nk l+1)<=14:=by rw[lN,if_pos rfl] at hd;exact hd
    cases e:gI r.t with
    |nil=>rw[lex_nil e] at hk;simp at hk
    |cons b u=>
     rw[lJ e] at hk
     have hb:bV b=false/\b=40/\lex u=j6 l++ .cl::k:=by
      split at hk
      ·simp at hk
      ·rename_i h1;split at hk
       ·rename_i h2;exact⟨by simpa using h1,h2,by simpa using hk⟩
       ·split at hk<;>simp at hk
     obtain⟨N,v,h1,h2⟩:=SY l hf' ⟨u,r.deep+1,r.size+1,false⟩ [] k hb.2.2 rfl gC gC;refine⟨N+1,v,h1,fun n hN=> ?_⟩
     cases n with
     |zero=>omega
     |succ n=>
      rw[lZ,e]
      simp only
      rw[if_neg gA,if_neg (by rw[hb.1];decide),if_neg (by rw[hb.2.1];simp;omega),h2 n gA];simp only[bc,Nat.add_sub_cancel,bL,jC];congr 2;omega
   |cons c v=>
    rw[rD] at hk
    have hf':validAtom (c::v)=true/\l=[]:=by
     rw[iG,if_neg gL] at hf;simp only[ai,decide_eq_true_eq,List.length_eq_zero_iff] at hf;exact hf
    obtain⟨-,rfl⟩:=hf'
    cases e:gI r.t with
    |nil=>rw[lex_nil e] at hk;simp at hk
    |cons b u=>
     rw[lJ e] at hk;split at hk
     ·rename_i h1;simp only[ba,bc,eK,Tok.wd.injEq] at hk;refine⟨1,u.dropWhile bV,hk.2,fun n hN=> ?_⟩
      cases n with
      |zero=>omega
      |succ n=>
       have hz:jC (.mk (c::v) [])=1:=rfl;rw[hz] at hn;rw[lZ,e]
       simp only
       rw[if_neg gA,if_pos h1,hk.1.1,hk.1.2,hz];rfl
     ·split at hk
      ·simp at hk
      ·split at hk<;>simp at hk
theorem SY:∀(l:List ah),jo l=true->∀(r:RS)(acc:List ah)(k:List Tok),lex r.t=j6 l++ .cl::k->r.bad=false->r.size+kH l<=900->r.deep+nk l<=14->
 ∃(N:Nat) (u:List UInt8),lex u=k/\∀n,N<=n->sK n r acc=(bL (acc++l),⟨u,r.deep-1,r.size+kH l,false⟩)
 |[]=>fun hf r acc k hk hb hn hd=>by
  rw[j6,bc] at hk
  cases e:gI r.t with
  |nil=>rw[lex_nil e] at hk;simp at hk
  |cons b u=>
   rw[lJ e] at hk
   have hb':b=41/\lex u=k:=by
    split at hk
    ·simp at hk
    ·split at hk
     ·simp at hk
     ·split at hk
      ·rename_i h3;exact⟨h3,by simpa using hk⟩
      ·simp at hk
   refine⟨1,u,hb'.2,fun n hN=> ?_⟩
   cases n with
   |zero=>omega
   |succ n=>
    rw[sK,if_neg (by rw[hb];decide),if_pos (by rw[e,hb'.1];rfl),e,bm];rfl
 |x::l=>fun hf r acc k hk hb hn hd=>by
  rw[j6,cf] at hk;rw[jo,ai] at hf;rw[kH] at hn;rw[nk] at hd;obtain⟨N,u,h1,h2⟩:=Wd x hf.1 ⟨gI r.t,r.deep,r.size,false⟩ _ (by rw[yT];exact hk) gC gC;obtain⟨M,v,h3,h4⟩:=SY l hf.2 ⟨u,r.deep,r.size+jC x,false⟩ (acc++[x]) k h1 rfl gC gC;refine⟨N+M+1,v,h3,fun n hN=> ?_⟩
  cases n with
  |zero=>omega
  |succ n=>
   have hne:(gI r.t).head? ≠some 41:=fun hq=>by
    cases e:gI r.t with
    |nil=>rw[e] at hq;cases hq
    |cons b w=>
     rw[e] at hq
     have avT:b=41:=by simpa using hq
     rw[lJ e,avT] at hk
     cases x with|mk a l'=> ?_
     cases a with
     |nil=>rw[rD] at hk;revert hk;simp[show bV 41=false from gE]
     |cons c v=>rw[rD] at hk;revert hk;simp[show bV 41=false from gE]
   rw[sK,if_neg (by rw[hb];decide),if_neg hne,h2 n gA]
   simp only
   rw[h4 n gA,cf,kH];simp only[ba,bc];congr 2;omega
end
def Ah:Nat->List UInt8->List (List ah)->Nat->Option (List (List ah))
 |0,_,_,_=>none
 |_+1,[],rows,_=>some rows
 |n+1,b::u,rows,c=>if mq b=true then Ah n u rows c else
  if b=40 then(if 15<rows.length+1\/1800<c+1 then none else Ah n u ([]::rows) (c+1)) else
  if b=41 then(match rows with
   |x::y::z=>if 1800<c+1 then none else Ah n u ((y++[bL x])::z) (c+1)
   |_=>none) else
  if bV b=true then(match rows with
   |x::z=>if 1800<c+1 then none else Ah n (u.dropWhile bV) ((x++[bN (b::u.takeWhile bV)])::z) (c+1)
   |[]=>none) else none
def runT:List Tok->List (List ah)->Nat->Option (List (List ah))
 |[],rows,_=>some rows
 | .op::k,rows,c=>if 15<rows.length+1\/1800<c+1 then none else runT k ([]::rows) (c+1)
 | .cl::k,x::y::z,c=>if 1800<c+1 then none else runT k ((y++[bL x])::z) (c+1)
 | .wd b u::k,x::z,c=>if 1800<c+1 then none else runT k ((x++[bN (b::u)])::z) (c+1)
 |_,_,_=>none
theorem Ai:∀(n:Nat)(l:List UInt8)(rows:List (List ah))(c:Nat),l.length<n->Ah n l rows c=runT (lex l) rows c
 |0,l,rows,c,h=>by omega
 |n+1,[],rows,c,h=>by rw[Ah,lex_nil rfl];rfl
 |n+1,b::u,rows,c,h=>by
  rw[aa] at h;have hd:(u.dropWhile bV).length<=u.length:=(eS bV).length_le;rw[Ah.eq_def]
  simp only
  by_cases hb:mq b=true
  ·rw[if_pos hb,Ai n u rows c gA,<-yT (b::u),FK hb,yT]
  ·rw[if_neg hb]
   have hb':mq b=false:=by simpa using hb
   rw[lJ (tX hb')];by_cases S9:b=40
   ·subst S9;rw[if_pos rfl,if_neg (show ¬bV 40=true by decide),if_pos rfl,runT,Ai n u _ _ gA]
   ·rw[if_neg S9];by_cases Wh:b=41
    ·subst Wh;rw[if_pos rfl,if_neg (show ¬bV 41=true by decide),if_neg (show ¬(41:UInt8)=40 by decide),if_pos rfl]
     match rows with
     |[]=>simp[runT]
     |[x]=>simp[runT]
     |x::y::z=>simp only[runT];rw[Ai n u _ _ gA]
    ·rw[if_neg Wh];by_cases ha:bV b=true
     ·rw[if_pos ha,if_pos ha]
      match rows with
      |[]=>simp[runT]
      |x::z=>simp only[runT];rw[Ai n _ _ _ gA]
     ·rw[if_neg ha,if_neg ha,if_neg S9,if_neg Wh]
      cases rows with
      |nil=>simp[runT]
      |cons x z=>simp[runT]
def Dw:List (List ah)->List Tok
 |[]=>[]
 |x::z=>(if z=[] then [] else Dw z++[.op])++j6 x
theorem FL:∀(k:List Tok)(rows:List (List ah))(c:Nat)(out:List (List ah)),rows≠[]->runT k rows c=some out->out≠[]/\Dw out=Dw rows++k
 |[],rows,c,out,h0,h=>by
  rw[runT] at h;cases h;exact⟨h0,by rw[bm]⟩
 | .op::k,rows,c,out,h0,h=>by
   rw[runT] at h;split at h
   ·cases h
   ·obtain⟨a,b⟩:=FL k _ _ out gL h;refine⟨a,?_⟩;rw[b,Dw,if_neg h0,j6,bm,cf];rfl
 | .cl::k,[],c,out,h0,h=>absurd rfl h0
 | .cl::k,[x],c,out,h0,h=>by simp[runT] at h
 | .cl::k,x::y::z,c,out,h0,h=>by
   rw[runT] at h;split at h
   ·cases h
   ·obtain⟨a,b⟩:=FL k _ _ out gL h;refine⟨a,?_⟩;rw[b,Dw,Dw,Dw,if_neg (by simp:¬y::z=[]),EJ,j6,j6,bm,SS];simp only[cf,ba,bc]
 | .wd b u::k,[],c,out,h0,h=>absurd rfl h0
 | .wd b u::k,x::z,c,out,h0,h=>by
   rw[runT] at h;split at h
   ·cases h
   ·obtain⟨a,e⟩:=FL k _ _ out gL h;refine⟨a,?_⟩;rw[e,Dw,Dw,EJ,j6,j6,bm,SV];simp only[cf,ba,bc]
 | .no::k,rows,c,out,h0,h=>by simp[runT] at h
mutual
theorem Wi:∀(x:ah),iG x=true->∀(k:List Tok)(r:List ah)(z:List (List ah))(c:Nat),z.length+1+lN x<=15->c+2*jC x<=1800->
 ∃d,d<=c+2*jC x/\runT (rD x++k) (r::z) c=runT k ((r++[x])::z) d
 | .mk [] l=>fun hf k r z c hd hc=>by
   rw[iG,if_pos rfl] at hf;rw[lN,if_pos rfl] at hd;rw[jC] at hc;obtain⟨d,h1,h2⟩:=Ta l hf (.cl::k) [] (r::z) (c+1) (by rw[aa];omega) gA;refine⟨d+1,by rw[jC];omega,?_⟩;rw[rD,ba,ba,cf];simp only[ba,bc];rw[runT,if_neg (by rw[aa];omega),h2,runT,if_neg gA];rfl
 | .mk (b::u) l=>fun hf k r z c hd hc=>by
   rw[iG,if_neg gL] at hf;simp only[ai,decide_eq_true_eq,List.length_eq_zero_iff] at hf;obtain⟨-,rfl⟩:=hf;have hz:jC (.mk (b::u) [])=1:=rfl;rw[hz] at hc ⊢;refine⟨c+1,gA,?_⟩;rw[rD,ba,bc,runT,if_neg gA];rfl
theorem Ta:∀(l:List ah),jo l=true->∀(k:List Tok)(r:List ah)(z:List (List ah))(c:Nat),z.length+1+nk l<=15->c+2*kH l<=1800->
 ∃d,d<=c+2*kH l/\runT (j6 l++k) (r::z) c=runT k ((r++l)::z) d
 |[]=>fun hf k r z c hd hc=>⟨c,gA,by rw[j6,bm];rfl⟩
 |x::l=>fun hf k r z c hd hc=>by
  rw[jo,ai] at hf;rw[nk] at hd;rw[kH] at hc;obtain⟨d,h1,h2⟩:=Wi x hf.1 (j6 l++k) r z c gA gA;obtain⟨e,h3,h4⟩:=Ta l hf.2 k (r++[x]) z d gA gA;refine⟨e,by rw[kH];omega,?_⟩;rw[j6,cf,h2,h4,cf];rfl
end
def Denotes(s:List UInt8)(x:ah):Prop:=dQ x=true/\lex s=rD x
theorem G7{x:ah}(h:dQ x=true):iG x=true/\lN x<=14/\jC x<=900:=by
 unfold dQ at h;simpa using h
theorem Dx{s:List UInt8}{x:ah}(h:Denotes s x):Ah (s.length+1) s [[]] 0=some [[x]]:=by
 obtain⟨h1,h2,h3⟩:=G7 h.1;obtain⟨d,_,h4⟩:=Wi x h1 [] [] [] 0 gR gA;rw[Ai _ _ _ _ (cg _),h.2,<-bm (rD x),h4];rfl
theorem ab1{s:List UInt8}{x y:ah}(h:Denotes s x)(h':Denotes s y):x=y:=by
 have:=(Dx h).symm.trans (Dx h');simpa using this
theorem Po{s:List UInt8}{x:ah}(h:Ah (s.length+1) s [[]] 0=some [[x]])(hv:dQ x=true):Denotes s x:=by
 rw[Ai _ _ _ _ (cg _)] at h;obtain⟨_,h⟩:=FL _ _ _ _ gL h;simp only[Dw,if_true,bc,j6,bm] at h;exact⟨hv,h.symm⟩
open Classical in
noncomputable def lu(s:List UInt8):Bool:=dec (∃x,Denotes s x)
open Classical in
noncomputable def kg(s:List UInt8):ah:=if h:∃x,Denotes s x then h.choose else cZ
theorem AZ{s:List UInt8}{x:ah}(h:Denotes s x):lu s=true/\kg s=x:=by
 have h':∃x,Denotes s x:=⟨x,h⟩;refine⟨bK h',?_⟩;unfold kg;rw[dif_pos h'];exact ab1 h'.choose_spec h
theorem ZR{s:List UInt8}(h:∀x,¬Denotes s x):lu s=false/\kg s=cZ:=by
 have h':¬∃x,Denotes s x:=fun⟨x,hx⟩=>h x hx;refine⟨aO h',?_⟩;unfold kg;rw[dif_neg h']
theorem Pp{s:List UInt8}(h:lu s=true):dQ (kg s)=true:=by
 obtain⟨x,hx⟩:=gD h;rw[(AZ hx).2];exact hx.1
def Tc(s:List UInt8):Nat:=2*s.length+2
theorem ZT(s:List UInt8):∃n,Tc s<=n/\dec ((lZ n ⟨s,0,0,false⟩).2.bad=false/\gI (lZ n ⟨s,0,0,false⟩).2.t=[]/\dQ (lZ n ⟨s,0,0,false⟩).1=true)=lu s/\(lu s=true->(lZ n ⟨s,0,0,false⟩).1=kg s):=by
 by_cases h:∃x,Denotes s x
 ·obtain⟨x,hx⟩:=h;obtain⟨h1,h2,h3⟩:=G7 hx.1;obtain⟨N,u,hu,hN⟩:=Wd x h1 ⟨s,0,0,false⟩ [] (by rw[bm];exact hx.2) gC gC;refine⟨N+Tc s,gA,?_,fun _=> ?_⟩
  ·rw[hN _ gA,(AZ hx).1];exact bK ⟨rfl,apt hu,hx.1⟩
  ·rw[hN _ gA,(AZ hx).2]
 ·have hno:=ZR (s:=s) fun x hx=>h ⟨x,hx⟩;refine⟨Tc s,ax _,?_,fun e=>by rw[hno.1] at e;cases e⟩;rw[hno.1];refine aO fun hq=>h ⟨_,hq.2.2,?_⟩;have:=(SX (Tc s)).1 ⟨s,0,0,false⟩ hq.1;simp only at this;rw[this,lex_nil hq.2.1,bm]
theorem Ng(s:List UInt8):((∃x,Ah (s.length+1) s [[]] 0=some [[x]]/\dQ x=true)<->lu s=true)/\∀x,Ah (s.length+1) s [[]] 0=some [[x]]->dQ x=true->kg s=x:=
 ⟨⟨fun⟨x,h1,h2⟩=>(AZ (Po h1 h2)).1,fun h=>by
   obtain⟨x,hx⟩:=gD h
   exact⟨x,Dx hx,hx.1⟩⟩,fun x h1 h2=>(AZ (Po h1 h2)).2⟩
end Go.Ab