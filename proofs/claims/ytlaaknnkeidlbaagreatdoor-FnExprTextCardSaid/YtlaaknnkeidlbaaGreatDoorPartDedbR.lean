/-
  SEVERAL TEXTS IN ONE (merged by program): contracts and models, each with its own heading.
-/
import Derived.Test.YtlaaknnkeidlbaaGreatDoorPartDedbE
set_option linter.unusedSimpArgs false
set_option linter.unusedVariables false
namespace Go.Ab
def lC(b:UInt8):Bool:=decide (b.toNat=32)||decide (b.toNat=10)
def jG(l:List UInt8):List UInt8:=l.dropWhile lC
theorem Qb(l:List UInt8):jG l <:+ l:=eV _
theorem Mk(l:List UInt8):(jG l).length<=l.length:=(Qb l).length_le
theorem Wh{l u:List UInt8}{b:UInt8}(h:jG l=b::u):lC b=false:=by
 induction l with
 |nil=>cases h
 |cons a l ih=>
  unfold jG at h ih;rw[List.dropWhile_cons] at h;split at h
  ·exact ih h
  ·rename_i h1;injection h with h2 h3;subst h2;simpa using h1
theorem oq{b:UInt8}{u:List UInt8}(h:lC b=false):jG (b::u)=b::u:=by
 unfold jG;rw[List.dropWhile_cons,h];rfl
theorem Co{b:UInt8}{u:List UInt8}(h:lC b=true):jG (b::u)=jG u:=by
 unfold jG;rw[List.dropWhile_cons,h];rfl
theorem Ep{b:UInt8}(h:aY b=true):lC b=false/\b≠40/\b≠41:=by
 refine⟨?_,fun e=> ?_,fun e=> ?_⟩
 ·cases hb:lC b with
  |false=>rfl
  |true=>
   unfold lC at hb;unfold aY at h;simp only[cW,decide_eq_true_eq] at hb h;rcases hb with hb|hb
   ·obtain rfl:b=32:=UInt8.toNat_inj.1 hb;revert h;decide
   ·obtain rfl:b=10:=UInt8.toNat_inj.1 hb;revert h;decide
 ·subst e;revert h;decide
 ·subst e;revert h;decide
structure RS where
 t:List UInt8
 deep:Nat
 size:Nat
 bad:Bool
mutual
def JH:Nat->RS->ah×RS
 |0,r=>(gF,⟨r.t,r.deep,r.size+1,true⟩)
 |n+1,r=>match jG r.t with
  |[]=>(gF,⟨[],r.deep,r.size+1,true⟩)
  |b::u=>if 900<r.size+1 then(gF,⟨b::u,r.deep,r.size+1,true⟩) else
   if aY b=true then(aM (b::u.takeWhile aY),⟨u.dropWhile aY,r.deep,r.size+1,false⟩) else
   if b≠40\/r.deep=14 then(gF,⟨b::u,r.deep,r.size+1,true⟩) else JI n ⟨u,r.deep+1,r.size+1,false⟩ []
def JI:Nat->RS->List ah->ah×RS
 |0,r,acc=>(dh acc,⟨r.t,r.deep,r.size,true⟩)
 |n+1,r,acc=>if r.bad=true then(dh acc,r) else
  if(jG r.t).head? =some 41 then(dh acc,⟨(jG r.t).tail,r.deep-1,r.size,false⟩) else
  JI n (JH n ⟨jG r.t,r.deep,r.size,false⟩).2 (acc++[(JH n ⟨jG r.t,r.deep,r.size,false⟩).1])
end
structure ak4(x:ah)(r r':RS):Prop where
 suf:r'.t <:+ r.t
 deep:r'.bad=false->r'.deep=r.deep
 low:r'.deep<=14
 size:r.size+1<=r'.size/\r'.size<=901
 sz:x.sz+1<=(r.t.length-r'.t.length)+(r'.size-r.size)
 go:r'.bad=false->r'.t.length<r.t.length/\r'.size<=900
structure ak5(acc:List ah)(x:ah)(r r':RS):Prop where
 suf:r'.t <:+ r.t
 deep:r'.bad=false->r'.deep=r.deep-1/\r.bad=false/\r'.size<=900
 low:r'.deep<=14
 size:r.size<=r'.size/\r'.size<=901
 sz:∃l,x=dh (acc++l)/\l.length+dD l<=(r.t.length-r'.t.length)+(r'.size-r.size)/\l.length<=r'.size-r.size
inductive Tok where
 |op
 |cl
 |wd (b:UInt8) (u:List UInt8)
 |no
def Av:Nat->List UInt8->List Tok
 |0,_=>[]
 |n+1,l=>match jG l with
  |[]=>[]
  |b::u=>if aY b=true then .wd b (u.takeWhile aY)::Av n (u.dropWhile aY) else if b=40 then .op::Av n u else if b=41 then .cl::Av n u else [.no]
theorem FD:∀(n m:Nat)(l:List UInt8),l.length<n->l.length<m->Av n l=Av m l
 |0,m,l,h,_=>by omega
 |n+1,0,l,_,h=>by omega
 |n+1,m+1,l,h1,h2=>by
  rw[Av,Av];have hs:=Mk l;split
  ·rfl
  ·rename_i b u e;rw[e,aa] at hs;have hd:(u.dropWhile aY).length<=u.length:=(eV aY).length_le;rw[FD n m u (by omega) (by omega),FD n m (u.dropWhile aY) (by omega) (by omega)]
def lex(l:List UInt8):List Tok:=Av (l.length+1) l
theorem lex_nil{l:List UInt8}(h:jG l=[]):lex l=[]:=by
 unfold lex;rw[Av,h]
theorem jM{l u:List UInt8}{b:UInt8}(h:jG l=b::u):lex l=if aY b=true then .wd b (u.takeWhile aY)::lex (u.dropWhile aY) else if b=40 then .op::lex u else if b=41 then .cl::lex u else [.no]:=by
 have hs:=Mk l;rw[h,aa] at hs;have hd:(u.dropWhile aY).length<=u.length:=(eV aY).length_le;unfold lex;rw[Av,h]
 simp only
 rw[FD _ (u.length+1) u (by omega) (by omega),FD _ ((u.dropWhile aY).length+1) (u.dropWhile aY) (by omega) (by omega)]
theorem sJ(l:List UInt8):lex (jG l)=lex l:=by
 cases h:jG l with
 |nil=>rw[lex_nil h];rfl
 |cons b u=>rw[jM h,jM (l:=b::u) (oq (Wh h))]
mutual
def l7:ah->List Tok
 | .mk [] l=>.op::gY l++[.cl]
 | .mk (b::u) _=>[.wd b u]
def gY:List ah->List Tok
 |[]=>[]
 |x::xs=>l7 x++gY xs
end
theorem xC:∀a b,gY (a++b)=gY a++gY b
 |[],b=>rfl
 |x::a,b=>by rw[am,gY,gY,xC a b,bk]
theorem Wi(l:List ah):l7 (dh l)=.op::gY l++[.cl]:=by unfold dh;rw[l7]
theorem Wj(b:UInt8)(u:List UInt8):l7 (aM (b::u))=[.wd b u]:=by unfold aM;rw[l7]
mutual
theorem Zy:∀(x:ah),gu x=true->∀(r:RS)(k:List Tok),lex r.t=l7 x++k->r.size+fT x<=900->r.deep+iL x<=14->
 ∃(N:Nat) (u:List UInt8),lex u=k/\∀n,N<=n->JH n r=(x,⟨u,r.deep,r.size+fT x,false⟩)
 | .mk a l=>fun hf r k hk hn hd=>by
   cases a with
   |nil=>
    rw[l7] at hk
    have hf':fI l=true:=by rw[gu,if_pos rfl] at hf;exact hf
    have hn':r.size+(gX l+1)<=900:=by rw[fT] at hn;exact hn
    have hd':r.deep+(jr l+1)<=14:=by rw[iL,if_pos rfl] at hd;exact hd
    cases e:jG r.t with
    |nil=>rw[lex_nil e] at hk;simp at hk
    |cons b u=>
     rw[jM e] at hk
     have hb:aY b=false/\b=40/\lex u=gY l++ .cl::k:=by
      split at hk
      ·simp at hk
      ·rename_i h1;split at hk
       ·rename_i h2;exact⟨by simpa using h1,h2,by simpa using hk⟩
       ·split at hk<;>simp at hk
     obtain⟨N,v,h1,h2⟩:=JJ l hf' ⟨u,r.deep+1,r.size+1,false⟩ [] k hb.2.2 rfl (by simp only;omega) (by simp only;omega);refine⟨N+1,v,h1,fun n hN=> ?_⟩
     cases n with
     |zero=>omega
     |succ n=>
      rw[JH,e]
      simp only
      rw[if_neg (by omega),if_neg (by rw[hb.1];decide),if_neg (by rw[hb.2.1];simp;omega),h2 n (by omega)];simp only[aw,Nat.add_sub_cancel,dh,fT];congr 2;omega
   |cons c v=>
    rw[l7] at hk
    have hf':validAtom (c::v)=true/\l=[]:=by
     rw[gu,if_neg (by simp)] at hf;simp only[af,decide_eq_true_eq,List.length_eq_zero_iff] at hf;exact hf
    obtain⟨-,rfl⟩:=hf'
    cases e:jG r.t with
    |nil=>rw[lex_nil e] at hk;simp at hk
    |cons b u=>
     rw[jM e] at hk;split at hk
     ·rename_i h1;simp only[am,aw,ed,Tok.wd.injEq] at hk;refine⟨1,u.dropWhile aY,hk.2,fun n hN=> ?_⟩
      cases n with
      |zero=>omega
      |succ n=>
       have hz:fT (.mk (c::v) [])=1:=rfl;rw[hz] at hn;rw[JH,e]
       simp only
       rw[if_neg (by omega),if_pos h1,hk.1.1,hk.1.2,hz];rfl
     ·split at hk
      ·simp at hk
      ·split at hk<;>simp at hk
theorem JJ:∀(l:List ah),fI l=true->∀(r:RS)(acc:List ah)(k:List Tok),lex r.t=gY l++ .cl::k->r.bad=false->r.size+gX l<=900->r.deep+jr l<=14->
 ∃(N:Nat) (u:List UInt8),lex u=k/\∀n,N<=n->JI n r acc=(dh (acc++l),⟨u,r.deep-1,r.size+gX l,false⟩)
 |[]=>fun hf r acc k hk hb hn hd=>by
  rw[gY,aw] at hk
  cases e:jG r.t with
  |nil=>rw[lex_nil e] at hk;simp at hk
  |cons b u=>
   rw[jM e] at hk
   have hb':b=41/\lex u=k:=by
    split at hk
    ·simp at hk
    ·split at hk
     ·simp at hk
     ·split at hk
      ·rename_i h3;exact⟨h3,by simpa using hk⟩
      ·simp at hk
   refine⟨1,u,hb'.2,fun n hN=> ?_⟩
   cases n with
   |zero=>omega
   |succ n=>
    rw[JI,if_neg (by rw[hb];decide),if_pos (by rw[e,hb'.1];rfl),e,bw];rfl
 |x::l=>fun hf r acc k hk hb hn hd=>by
  rw[gY,bk] at hk;rw[fI,af] at hf;rw[gX] at hn;rw[jr] at hd;obtain⟨N,u,h1,h2⟩:=Zy x hf.1 ⟨jG r.t,r.deep,r.size,false⟩ _ (by rw[sJ];exact hk) (by simp only;omega) (by simp only;omega);obtain⟨M,v,h3,h4⟩:=JJ l hf.2 ⟨u,r.deep,r.size+fT x,false⟩ (acc++[x]) k h1 rfl (by simp only;omega) (by simp only;omega);refine⟨N+M+1,v,h3,fun n hN=> ?_⟩
  cases n with
  |zero=>omega
  |succ n=>
   have hne:(jG r.t).head? ≠some 41:=fun hq=>by
    cases e:jG r.t with
    |nil=>rw[e] at hq;cases hq
    |cons b w=>
     rw[e] at hq
     have aj1:b=41:=by simpa using hq
     rw[jM e,aj1] at hk
     cases x with|mk a l'=> ?_
     cases a with
     |nil=>rw[l7] at hk;revert hk;simp[show aY 41=false from by decide]
     |cons c v=>rw[l7] at hk;revert hk;simp[show aY 41=false from by decide]
   rw[JI,if_neg (by rw[hb];decide),if_neg hne,h2 n (by omega)]
   simp only
   rw[h4 n (by omega),bk,gX];simp only[am,aw];congr 2;omega
end
def sK:Nat->List UInt8->List (List ah)->Nat->Option (List (List ah))
 |0,_,_,_=>none
 |_+1,[],rows,_=>some rows
 |n+1,b::u,rows,c=>if lC b=true then sK n u rows c else
  if b=40 then(if 15<rows.length+1\/1800<c+1 then none else sK n u ([]::rows) (c+1)) else
  if b=41 then(match rows with
   |x::y::z=>if 1800<c+1 then none else sK n u ((y++[dh x])::z) (c+1)
   |_=>none) else
  if aY b=true then(match rows with
   |x::z=>if 1800<c+1 then none else sK n (u.dropWhile aY) ((x++[aM (b::u.takeWhile aY)])::z) (c+1)
   |[]=>none) else none
def runT:List Tok->List (List ah)->Nat->Option (List (List ah))
 |[],rows,_=>some rows
 | .op::k,rows,c=>if 15<rows.length+1\/1800<c+1 then none else runT k ([]::rows) (c+1)
 | .cl::k,x::y::z,c=>if 1800<c+1 then none else runT k ((y++[dh x])::z) (c+1)
 | .wd b u::k,x::z,c=>if 1800<c+1 then none else runT k ((x++[aM (b::u)])::z) (c+1)
 |_,_,_=>none
theorem sM:∀(n:Nat)(l:List UInt8)(rows:List (List ah))(c:Nat),l.length<n->sK n l rows c=runT (lex l) rows c
 |0,l,rows,c,h=>by omega
 |n+1,[],rows,c,h=>by rw[sK,lex_nil rfl];rfl
 |n+1,b::u,rows,c,h=>by
  rw[aa] at h;have hd:(u.dropWhile aY).length<=u.length:=(eV aY).length_le;rw[sK.eq_def]
  simp only
  by_cases hb:lC b=true
  ·rw[if_pos hb,sM n u rows c (by omega),<-sJ (b::u),Co hb,sJ]
  ·rw[if_neg hb]
   have hb':lC b=false:=by simpa using hb
   rw[jM (oq hb')];by_cases JK:b=40
   ·subst JK;rw[if_pos rfl,if_neg (show ¬aY 40=true by decide),if_pos rfl,runT,sM n u _ _ (by omega)]
   ·rw[if_neg JK];by_cases Ml:b=41
    ·subst Ml;rw[if_pos rfl,if_neg (show ¬aY 41=true by decide),if_neg (show ¬(41:UInt8)=40 by decide),if_pos rfl]
     match rows with
     |[]=>simp[runT]
     |[x]=>simp[runT]
     |x::y::z=>simp only[runT];rw[sM n u _ _ (by omega)]
    ·rw[if_neg Ml];by_cases ha:aY b=true
     ·rw[if_pos ha,if_pos ha]
      match rows with
      |[]=>simp[runT]
      |x::z=>simp only[runT];rw[sM n _ _ _ (by omega)]
     ·rw[if_neg ha,if_neg ha,if_neg JK,if_neg Ml]
      cases rows with
      |nil=>simp[runT]
      |cons x z=>simp[runT]
def vW:List (List ah)->List Tok
 |[]=>[]
 |x::z=>(if z=[] then [] else vW z++[.op])++gY x
theorem yu:∀(k:List Tok)(rows:List (List ah))(c:Nat)(out:List (List ah)),rows≠[]->runT k rows c=some out->out≠[]/\vW out=vW rows++k
 |[],rows,c,out,h0,h=>by
  rw[runT] at h;cases h;exact⟨h0,by rw[bw]⟩
 | .op::k,rows,c,out,h0,h=>by
   rw[runT] at h;split at h
   ·cases h
   ·obtain⟨a,b⟩:=yu k _ _ out (by simp) h;refine⟨a,?_⟩;rw[b,vW,if_neg h0,gY,bw,bk];rfl
 | .cl::k,[],c,out,h0,h=>absurd rfl h0
 | .cl::k,[x],c,out,h0,h=>by simp[runT] at h
 | .cl::k,x::y::z,c,out,h0,h=>by
   rw[runT] at h;split at h
   ·cases h
   ·obtain⟨a,b⟩:=yu k _ _ out (by simp) h;refine⟨a,?_⟩;rw[b,vW,vW,vW,if_neg (by simp:¬y::z=[]),xC,gY,gY,bw,Wi];simp only[bk,am,aw]
 | .wd b u::k,[],c,out,h0,h=>absurd rfl h0
 | .wd b u::k,x::z,c,out,h0,h=>by
   rw[runT] at h;split at h
   ·cases h
   ·obtain⟨a,e⟩:=yu k _ _ out (by simp) h;refine⟨a,?_⟩;rw[e,vW,vW,xC,gY,gY,bw,Wj];simp only[bk,am,aw]
 | .no::k,rows,c,out,h0,h=>by simp[runT] at h
mutual
theorem Mq:∀(x:ah),gu x=true->∀(k:List Tok)(r:List ah)(z:List (List ah))(c:Nat),z.length+1+iL x<=15->c+2*fT x<=1800->
 ∃d,d<=c+2*fT x/\runT (l7 x++k) (r::z) c=runT k ((r++[x])::z) d
 | .mk [] l=>fun hf k r z c hd hc=>by
   rw[gu,if_pos rfl] at hf;rw[iL,if_pos rfl] at hd;rw[fT] at hc;obtain⟨d,h1,h2⟩:=JL l hf (.cl::k) [] (r::z) (c+1) (by rw[aa];omega) (by omega);refine⟨d+1,by rw[fT];omega,?_⟩;rw[l7,am,am,bk];simp only[am,aw];rw[runT,if_neg (by rw[aa];omega),h2,runT,if_neg (by omega)];rfl
 | .mk (b::u) l=>fun hf k r z c hd hc=>by
   rw[gu,if_neg (by simp)] at hf;simp only[af,decide_eq_true_eq,List.length_eq_zero_iff] at hf;obtain⟨-,rfl⟩:=hf;have hz:fT (.mk (b::u) [])=1:=rfl;rw[hz] at hc ⊢;refine⟨c+1,by omega,?_⟩;rw[l7,am,aw,runT,if_neg (by omega)];rfl
theorem JL:∀(l:List ah),fI l=true->∀(k:List Tok)(r:List ah)(z:List (List ah))(c:Nat),z.length+1+jr l<=15->c+2*gX l<=1800->
 ∃d,d<=c+2*gX l/\runT (gY l++k) (r::z) c=runT k ((r++l)::z) d
 |[]=>fun hf k r z c hd hc=>⟨c,by omega,by rw[gY,bw];rfl⟩
 |x::l=>fun hf k r z c hd hc=>by
  rw[fI,af] at hf;rw[jr] at hd;rw[gX] at hc;obtain⟨d,h1,h2⟩:=Mq x hf.1 (gY l++k) r z c (by omega) (by omega);obtain⟨e,h3,h4⟩:=JL l hf.2 k (r++[x]) z d (by omega) (by omega);refine⟨e,by rw[gX];omega,?_⟩;rw[gY,bk,h2,h4,bk];rfl
end
def Denotes(s:List UInt8)(x:ah):Prop:=dJ x=true/\lex s=l7 x
theorem Er{x:ah}(h:dJ x=true):gu x=true/\iL x<=14/\fT x<=900:=by
 unfold dJ at h;simpa using h
theorem vX{s:List UInt8}{x:ah}(h:Denotes s x):sK (s.length+1) s [[]] 0=some [[x]]:=by
 obtain⟨h1,h2,h3⟩:=Er h.1;obtain⟨d,_,h4⟩:=Mq x h1 [] [] [] 0 (by simp;omega) (by omega);rw[sM _ _ _ _ (br _),h.2,<-bw (l7 x),h4];rfl
theorem Sk{s:List UInt8}{x y:ah}(h:Denotes s x)(h':Denotes s y):x=y:=by
 have:=(vX h).symm.trans (vX h');simpa using this
theorem Gg{s:List UInt8}{x:ah}(h:sK (s.length+1) s [[]] 0=some [[x]])(hv:dJ x=true):Denotes s x:=by
 rw[sM _ _ _ _ (br _)] at h;obtain⟨_,h⟩:=yu _ _ _ _ (by simp) h;simp only[vW,if_true,aw,gY,bw] at h;exact⟨hv,h.symm⟩
open Classical in
noncomputable def lK(s:List UInt8):Bool:=dec (∃x,Denotes s x)
open Classical in
noncomputable def kC(s:List UInt8):ah:=if h:∃x,Denotes s x then h.choose else gF
theorem zY{s:List UInt8}{x:ah}(h:Denotes s x):lK s=true/\kC s=x:=by
 have h':∃x,Denotes s x:=⟨x,h⟩;refine⟨cK h',?_⟩;unfold kC;rw[dif_pos h'];exact Sk h'.choose_spec h
theorem acO{s:List UInt8}(h:∀x,¬Denotes s x):lK s=false/\kC s=gF:=by
 have h':¬∃x,Denotes s x:=fun⟨x,hx⟩=>h x hx;refine⟨aT h',?_⟩;unfold kC;rw[dif_neg h']
theorem Sl{s:List UInt8}(h:lK s=true):dJ (kC s)=true:=by
 obtain⟨x,hx⟩:=iJ h;rw[(zY hx).2];exact hx.1
theorem Es(s:List UInt8):((∃x,sK (s.length+1) s [[]] 0=some [[x]]/\dJ x=true)<->lK s=true)/\∀x,sK (s.length+1) s [[]] 0=some [[x]]->dJ x=true->kC s=x:=
 ⟨⟨fun⟨x,h1,h2⟩=>(zY (Gg h1 h2)).1,fun h=>by
   obtain⟨x,hx⟩:=iJ h
   exact⟨x,vX hx,hx.1⟩⟩,fun x h1 h2=>(zY (Gg h1 h2)).2⟩
end Go.Ab