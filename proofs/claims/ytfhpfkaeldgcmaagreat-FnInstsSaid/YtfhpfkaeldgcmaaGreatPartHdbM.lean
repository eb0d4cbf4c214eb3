/-
  SEVERAL TEXTS IN ONE (merged by program): contracts and models, each with its own heading.
-/
import Derived.Test.YtfhpfkaeldgcmaaGreatPartHdbE
import Derived.Test.YtfhpfkaeldgcmaaGreatPartHdbL
set_option maxHeartbeats 8000000
open Go.Proofs Go.Proofs.Tryz
set_option linter.unusedSimpArgs false
set_option linter.unusedVariables false
set_option maxRecDepth 4000
namespace Go.Ab
def qB(b:UInt8):Bool:=decide (b.toNat=32)||decide (b.toNat=10)
def fG(l:List UInt8):List UInt8:=l.dropWhile qB
theorem wE(l:List UInt8):fG l <:+ l:=List.dropWhile_suffix _
theorem yK(l:List UInt8):(fG l).length<=l.length:=(wE l).length_le
theorem WJ{l u:List UInt8}{b:UInt8}(h:fG l=b::u):qB b=false:=by
 induction l with
 |nil=>cases h
 |cons a l ih=>
  unfold fG at h ih;rw[List.dropWhile_cons] at h;split at h
  ·exact ih h
  ·rename_i h1;injection h with h2 h3;subst h2;simpa using h1
theorem I6{b:UInt8}{u:List UInt8}(h:qB b=false):fG (b::u)=b::u:=by
 unfold fG;rw[List.dropWhile_cons,h];rfl
theorem KE{b:UInt8}{u:List UInt8}(h:qB b=true):fG (b::u)=fG u:=by
 unfold fG;rw[List.dropWhile_cons,h];rfl
structure RS where
 t:List UInt8
 deep:Nat
 size:Nat
 bad:Bool
mutual
def jK:Nat->RS->au×RS
 |0,r=>(dw,⟨r.t,r.deep,r.size+1,true⟩)
 |n+1,r=>match fG r.t with
  |[]=>(dw,⟨[],r.deep,r.size+1,true⟩)
  |b::u=>if 900<r.size+1 then(dw,⟨b::u,r.deep,r.size+1,true⟩) else
   if dz b=true then(bN (b::u.takeWhile dz),⟨u.dropWhile dz,r.deep,r.size+1,false⟩) else
   if b≠40\/r.deep=14 then(dw,⟨b::u,r.deep,r.size+1,true⟩) else nI n ⟨u,r.deep+1,r.size+1,false⟩ []
def nI:Nat->RS->List au->au×RS
 |0,r,acc=>(d9 acc,⟨r.t,r.deep,r.size,true⟩)
 |n+1,r,acc=>if r.bad=true then(d9 acc,r) else
  if(fG r.t).head? =some 41 then(d9 acc,⟨(fG r.t).tail,r.deep-1,r.size,false⟩) else
  nI n (jK n ⟨fG r.t,r.deep,r.size,false⟩).2 (acc++[(jK n ⟨fG r.t,r.deep,r.size,false⟩).1])
end
structure alC(x:au)(r r':RS):Prop where
 suf:r'.t <:+ r.t
 deep:r'.bad=false->r'.deep=r.deep
 low:r'.deep<=14
 size:r.size+1<=r'.size/\r'.size<=901
 sz:x.sz+1<=(r.t.length-r'.t.length)+(r'.size-r.size)
 go:r'.bad=false->r'.t.length<r.t.length/\r'.size<=900
structure alD(acc:List au)(x:au)(r r':RS):Prop where
 suf:r'.t <:+ r.t
 deep:r'.bad=false->r'.deep=r.deep-1/\r.bad=false/\r'.size<=900
 low:r'.deep<=14
 size:r.size<=r'.size/\r'.size<=901
 sz:∃l,x=d9 (acc++l)/\l.length+dI l<=(r.t.length-r'.t.length)+(r'.size-r.size)/\l.length<=r'.size-r.size
theorem Mk:∀n:Nat,(∀r:RS,r.deep<=14->r.size<=900->alC (jK n r).1 r (jK n r).2)/\
 (∀(r:RS) (acc:List au),r.deep<=14->r.size<=901->(r.bad=false->1<=r.deep/\r.size<=900)->alD acc (nI n r acc).1 r (nI n r acc).2)
 |0=>by
  refine⟨fun r h1 h2=> ?_,fun r acc h1 h2 h3=> ?_⟩
  ·rw[jK];exact⟨List.suffix_refl _,(fun h=>by cases h),h1,⟨Nat.le_refl _,by simp only;omega⟩,by simp[dw,iT,au.bC,au.aA,aI],(fun h=>by cases h)⟩
  ·rw[nI];exact⟨List.suffix_refl _,(fun h=>by cases h),h1,⟨Nat.le_refl _,h2⟩,[],by rw[List.append_nil],by simp[dI],by simp⟩
 |n+1=>by
  obtain⟨ih1,ih2⟩:=Mk n
  have z0:dw.sz=0:=by simp[dw,iT,au.bC,au.aA,aI]
  refine⟨fun r h1 h2=> ?_,fun r acc h1 h2 h3=> ?_⟩
  ·rw[jK];have hs:=wE r.t;split
   ·rename_i e;rw[e] at hs;exact⟨hs,(fun h=>by cases h),h1,⟨Nat.le_refl _,by simp only;omega⟩,by simp only[z0];omega,(fun h=>by cases h)⟩
   ·rename_i b u e;rw[e] at hs;have hl:=hs.length_le;rw[List.length_cons] at hl;split
    ·exact⟨hs,(fun h=>by cases h),h1,⟨Nat.le_refl _,by simp only;omega⟩,by simp only[z0];omega,(fun h=>by cases h)⟩
    ·split
     ·have hd:u.dropWhile dz <:+ u:=List.dropWhile_suffix _;have hdl:=hd.length_le
      have htd:(u.takeWhile dz).length+(u.dropWhile dz).length=u.length:=by
       rw[<-List.length_append,List.takeWhile_append_dropWhile]
      refine⟨(hd.trans (List.suffix_cons b u)).trans hs,fun _=>rfl,h1,⟨Nat.le_refl _,by simp only;omega⟩,?_,fun _=> ?_⟩
      ·rw[iY,List.length_cons];simp only;omega
      ·simp only;omega
     ·split
      ·exact⟨hs,(fun h=>by cases h),h1,⟨Nat.le_refl _,by simp only;omega⟩,by simp only[z0];omega,(fun h=>by cases h)⟩
      ·have hc:=ih2 ⟨u,r.deep+1,r.size+1,false⟩ [] (by simp only;omega) (by simp only;omega) (fun _=>by simp only;omega);obtain⟨c1,c2,c3,c4,l,c5,c6,c7⟩:=hc;have c8:=c1.length_le;simp only at c1 c2 c4 c6 c7 c8;refine⟨(c1.trans (List.suffix_cons b u)).trans hs,fun h=>by rw[(c2 h).1];omega,c3,⟨by omega,c4.2⟩,?_,fun h=>⟨by omega,(c2 h).2.2⟩⟩;rw[c5,List.nil_append,iZ];omega
  ·rw[nI];have hs:=wE r.t;have hl:=hs.length_le;split
   ·exact⟨List.suffix_refl _,(fun h=>by rename_i hb;rw[hb] at h;cases h),h1,⟨Nat.le_refl _,h2⟩,[],by rw[List.append_nil],by simp[dI],by simp⟩
   ·rename_i hb
    have hb':r.bad=false:=by simpa using hb
    have h3':=h3 hb';split
    ·have ht:(fG r.t).tail <:+ fG r.t:=List.tail_suffix _;refine⟨ht.trans hs,fun _=>⟨rfl,hb',h3'.2⟩,by simp only;omega,⟨Nat.le_refl _,h2⟩,[],by rw[List.append_nil],by simp[dI],by simp⟩
    ·have hc:=ih1 ⟨fG r.t,r.deep,r.size,false⟩ h1 h3'.2;obtain⟨x,hx⟩:∃x,x=jK n ⟨fG r.t,r.deep,r.size,false⟩:=⟨_,rfl⟩;rw[<-hx] at hc ⊢;clear hx;obtain⟨c1,c2,c3,c4,c5,c6⟩:=hc;simp only at c1 c2 c4 c5 c6;have c7:=c1.length_le;obtain⟨d1,d2,d3,d4,l,d5,d6,d7⟩:=ih2 x.2 (acc++[x.1]) c3 c4.2 (fun hq=>⟨by rw[c2 hq];exact h3'.1,(c6 hq).2⟩);have d8:=d1.length_le;refine⟨(d1.trans c1).trans hs,fun hq=>⟨by rw[(d2 hq).1,c2 (d2 hq).2.1],hb',(d2 hq).2.2⟩,d3,⟨by omega,d4.2⟩,x.1::l,by rw[d5,List.append_assoc];rfl,?_,?_⟩
     ·rw[List.length_cons,dI];omega
     ·rw[List.length_cons];omega
inductive Tok where
 |op
 |cl
 |wd (b:UInt8) (u:List UInt8)
 |no
def Ck:Nat->List UInt8->List Tok
 |0,_=>[]
 |n+1,l=>match fG l with
  |[]=>[]
  |b::u=>if dz b=true then .wd b (u.takeWhile dz)::Ck n (u.dropWhile dz) else if b=40 then .op::Ck n u else if b=41 then .cl::Ck n u else [.no]
theorem G6:∀(n m:Nat)(l:List UInt8),l.length<n->l.length<m->Ck n l=Ck m l
 |0,m,l,h,_=>by omega
 |n+1,0,l,_,h=>by omega
 |n+1,m+1,l,h1,h2=>by
  rw[Ck,Ck];have hs:=yK l;split
  ·rfl
  ·rename_i b u e;rw[e,List.length_cons] at hs;have hd:(u.dropWhile dz).length<=u.length:=(List.dropWhile_suffix dz).length_le;rw[G6 n m u (by omega) (by omega),G6 n m (u.dropWhile dz) (by omega) (by omega)]
def lex(l:List UInt8):List Tok:=Ck (l.length+1) l
theorem lex_nil{l:List UInt8}(h:fG l=[]):lex l=[]:=by
 unfold lex;rw[Ck,h]
theorem p9{l u:List UInt8}{b:UInt8}(h:fG l=b::u):lex l=if dz b=true then .wd b (u.takeWhile dz)::lex (u.dropWhile dz) else if b=40 then .op::lex u else if b=41 then .cl::lex u else [.no]:=by
 have hs:=yK l;rw[h,List.length_cons] at hs;have hd:(u.dropWhile dz).length<=u.length:=(List.dropWhile_suffix dz).length_le;unfold lex;rw[Ck,h]
 simp only
 rw[G6 _ (u.length+1) u (by omega) (by omega),G6 _ ((u.dropWhile dz).length+1) (u.dropWhile dz) (by omega) (by omega)]
theorem D5(l:List UInt8):lex (fG l)=lex l:=by
 cases h:fG l with
 |nil=>rw[lex_nil h];rfl
 |cons b u=>rw[p9 h,p9 (l:=b::u) (I6 (WJ h))]
theorem afS{l:List UInt8}(h:lex l=[]):fG l=[]:=by
 cases e:fG l with
 |nil=>rfl
 |cons b u=>
  rw[p9 e] at h;split at h
  ·cases h
  ·split at h
   ·cases h
   ·split at h<;>cases h
mutual
def qg:au->List Tok
 | .mk [] l=>.op::qC l++[.cl]
 | .mk (b::u) _=>[.wd b u]
def qC:List au->List Tok
 |[]=>[]
 |x::xs=>qg x++qC xs
end
theorem WK(l:List au):qg (d9 l)=.op::qC l++[.cl]:=by unfold d9;rw[qg]
theorem WL(b:UInt8)(u:List UInt8):qg (bN (b::u))=[.wd b u]:=by unfold bN;rw[qg]
theorem KF:∀n:Nat,(∀r:RS,(jK n r).2.bad=false->lex r.t=qg (jK n r).1++lex (jK n r).2.t)/\
 (∀(r:RS) (acc:List au),(nI n r acc).2.bad=false->∃l,(nI n r acc).1=d9 (acc++l)/\lex r.t=qC l++ .cl::lex (nI n r acc).2.t)
 |0=>⟨fun r h=>(by rw[jK] at h;cases h),fun r acc h=>(by rw[nI] at h;cases h)⟩
 |n+1=>by
  obtain⟨ih1,ih2⟩:=KF n;refine⟨fun r h=> ?_,fun r acc h=> ?_⟩
  ·rw[jK] at h ⊢;split at h
   ·cases h
   ·rename_i b u e;split at h
    ·cases h
    ·rename_i h1;rw[p9 e];simp only[h1,if_false];split at h
     ·rename_i h2;rw[if_pos h2];simp only[h2,if_true];rw[WL];rfl
     ·rename_i h2;split at h
      ·cases h
      ·rename_i h3;have hb:b=40:=Classical.byContradiction fun hb=>h3 (.inl hb);simp only[if_neg h2,if_neg h3,if_pos hb];obtain⟨l,q1,q2⟩:=ih2 _ [] h;rw[q1,List.nil_append,WK];simp only at q2;rw[q2]
       simp
  ·rw[nI] at h ⊢;split at h
   ·rename_i hb;rw[hb] at h;cases h
   ·rename_i hb;rw[if_neg hb];split at h
    ·rename_i h1;rw[if_pos h1];refine⟨[],by rw[List.append_nil],?_⟩
     cases e:fG r.t with
     |nil=>rw[e] at h1;cases h1
     |cons b u=>
      rw[e] at h1
      have hb:b=41:=by simpa using h1
      subst hb;rw[p9 e];rfl
    ·rename_i h1;rw[if_neg h1];obtain⟨l,q1,q2⟩:=ih2 _ _ h
     have hx:(jK n ⟨fG r.t,r.deep,r.size,false⟩).2.bad=false:=by
      cases hq:(jK n ⟨fG r.t,r.deep,r.size,false⟩).2.bad with
      |false=>rfl
      |true=>
       exfalso;revert h
       cases n with
       |zero=>rw[nI];simp
       |succ n=>rw[nI,if_pos hq,hq];simp
     have h2:=ih1 _ hx;simp only at h2;rw[D5] at h2;refine⟨(jK n ⟨fG r.t,r.deep,r.size,false⟩).1::l,by rw[q1,List.append_assoc];rfl,?_⟩;rw[h2,q2,qC,List.append_assoc]
mutual
theorem Nt:∀(x:au),pq x=true->∀(r:RS)(k:List Tok),lex r.t=qg x++k->r.size+jd x<=900->r.deep+lS x<=14->
 ∃(N:Nat) (u:List UInt8),lex u=k/\∀n,N<=n->jK n r=(x,⟨u,r.deep,r.size+jd x,false⟩)
 | .mk a l=>fun hf r k hk hn hd=>by
   cases a with
   |nil=>
    rw[qg] at hk
    have hf':om l=true:=by rw[pq,if_pos rfl] at hf;exact hf
    have hn':r.size+(jD l+1)<=900:=by rw[jd] at hn;exact hn
    have hd':r.deep+(lH l+1)<=14:=by rw[lS,if_pos rfl] at hd;exact hd
    cases e:fG r.t with
    |nil=>rw[lex_nil e] at hk;simp at hk
    |cons b u=>
     rw[p9 e] at hk
     have hb:dz b=false/\b=40/\lex u=qC l++ .cl::k:=by
      split at hk
      ·simp at hk
      ·rename_i h1;split at hk
       ·rename_i h2;exact⟨by simpa using h1,h2,by simpa using hk⟩
       ·split at hk<;>simp at hk
     obtain⟨N,v,h1,h2⟩:=KG l hf' ⟨u,r.deep+1,r.size+1,false⟩ [] k hb.2.2 rfl (by simp only;omega) (by simp only;omega);refine⟨N+1,v,h1,fun n hN=> ?_⟩
     cases n with
     |zero=>omega
     |succ n=>
      rw[jK,e]
      simp only
      rw[if_neg (by omega),if_neg (by rw[hb.1];decide),if_neg (by rw[hb.2.1];simp;omega),h2 n (by omega)];simp only[List.nil_append,Nat.add_sub_cancel,d9,jd];congr 2;omega
   |cons c v=>
    rw[qg] at hk
    have hf':validAtom (c::v)=true/\l=[]:=by
     rw[pq,if_neg (by simp)] at hf;simp only[Bool.and_eq_true,decide_eq_true_eq,List.length_eq_zero_iff] at hf;exact hf
    obtain⟨-,rfl⟩:=hf'
    cases e:fG r.t with
    |nil=>rw[lex_nil e] at hk;simp at hk
    |cons b u=>
     rw[p9 e] at hk;split at hk
     ·rename_i h1;simp only[List.cons_append,List.nil_append,List.cons.injEq,Tok.wd.injEq] at hk;refine⟨1,u.dropWhile dz,hk.2,fun n hN=> ?_⟩
      cases n with
      |zero=>omega
      |succ n=>
       have hz:jd (.mk (c::v) [])=1:=rfl;rw[hz] at hn;rw[jK,e]
       simp only
       rw[if_neg (by omega),if_pos h1,hk.1.1,hk.1.2,hz];rfl
     ·split at hk
      ·simp at hk
      ·split at hk<;>simp at hk
theorem KG:∀(l:List au),om l=true->∀(r:RS)(acc:List au)(k:List Tok),lex r.t=qC l++ .cl::k->r.bad=false->r.size+jD l<=900->r.deep+lH l<=14->
 ∃(N:Nat) (u:List UInt8),lex u=k/\∀n,N<=n->nI n r acc=(d9 (acc++l),⟨u,r.deep-1,r.size+jD l,false⟩)
 |[]=>fun hf r acc k hk hb hn hd=>by
  rw[qC,List.nil_append] at hk
  cases e:fG r.t with
  |nil=>rw[lex_nil e] at hk;simp at hk
  |cons b u=>
   rw[p9 e] at hk
   have hb':b=41/\lex u=k:=by
    split at hk
    ·simp at hk
    ·split at hk
     ·simp at hk
     ·split at hk
      ·rename_i h3;exact⟨h3,by simpa using hk⟩
      ·simp at hk
   refine⟨1,u,hb'.2,fun n hN=> ?_⟩
   cases n with
   |zero=>omega
   |succ n=>
    rw[nI,if_neg (by rw[hb];decide),if_pos (by rw[e,hb'.1];rfl),e,List.append_nil];rfl
 |x::l=>fun hf r acc k hk hb hn hd=>by
  rw[qC,List.append_assoc] at hk;rw[om,Bool.and_eq_true] at hf;rw[jD] at hn;rw[lH] at hd;obtain⟨N,u,h1,h2⟩:=Nt x hf.1 ⟨fG r.t,r.deep,r.size,false⟩ _ (by rw[D5];exact hk) (by simp only;omega) (by simp only;omega);obtain⟨M,v,h3,h4⟩:=KG l hf.2 ⟨u,r.deep,r.size+jd x,false⟩ (acc++[x]) k h1 rfl (by simp only;omega) (by simp only;omega);refine⟨N+M+1,v,h3,fun n hN=> ?_⟩
  cases n with
  |zero=>omega
  |succ n=>
   have hne:(fG r.t).head? ≠some 41:=fun hq=>by
    cases e:fG r.t with
    |nil=>rw[e] at hq;cases hq
    |cons b w=>
     rw[e] at hq
     have alE:b=41:=by simpa using hq
     rw[p9 e,alE] at hk
     cases x with|mk a l'=> ?_
     cases a with
     |nil=>rw[qg] at hk;revert hk;simp[show dz 41=false from by decide]
     |cons c v=>rw[qg] at hk;revert hk;simp[show dz 41=false from by decide]
   rw[nI,if_neg (by rw[hb];decide),if_neg hne,h2 n (by omega)]
   simp only
   rw[h4 n (by omega),List.append_assoc,jD];simp only[List.cons_append,List.nil_append];congr 2;omega
end
def FV:Nat->List UInt8->List (List au)->Nat->Option (List (List au))
 |0,_,_,_=>none
 |_+1,[],rows,_=>some rows
 |n+1,b::u,rows,c=>if qB b=true then FV n u rows c else
  if b=40 then(if 15<rows.length+1\/1800<c+1 then none else FV n u ([]::rows) (c+1)) else
  if b=41 then(match rows with
   |x::y::z=>if 1800<c+1 then none else FV n u ((y++[d9 x])::z) (c+1)
   |_=>none) else
  if dz b=true then(match rows with
   |x::z=>if 1800<c+1 then none else FV n (u.dropWhile dz) ((x++[bN (b::u.takeWhile dz)])::z) (c+1)
   |[]=>none) else none
def runT:List Tok->List (List au)->Nat->Option (List (List au))
 |[],rows,_=>some rows
 | .op::k,rows,c=>if 15<rows.length+1\/1800<c+1 then none else runT k ([]::rows) (c+1)
 | .cl::k,x::y::z,c=>if 1800<c+1 then none else runT k ((y++[d9 x])::z) (c+1)
 | .wd b u::k,x::z,c=>if 1800<c+1 then none else runT k ((x++[bN (b::u)])::z) (c+1)
 |_,_,_=>none
theorem AJ:∀(n:Nat)(l:List UInt8)(rows:List (List au))(c:Nat),l.length<n->FV n l rows c=runT (lex l) rows c
 |0,l,rows,c,h=>by omega
 |n+1,[],rows,c,h=>by rw[FV,lex_nil rfl];rfl
 |n+1,b::u,rows,c,h=>by
  rw[List.length_cons] at h;have hd:(u.dropWhile dz).length<=u.length:=(List.dropWhile_suffix dz).length_le;rw[FV.eq_def]
  simp only
  by_cases hb:qB b=true
  ·rw[if_pos hb,AJ n u rows c (by omega),<-D5 (b::u),KE hb,D5]
  ·rw[if_neg hb]
   have hb':qB b=false:=by simpa using hb
   rw[p9 (I6 hb')];by_cases h40:b=40
   ·subst h40;rw[if_pos rfl,if_neg (show ¬dz 40=true by decide),if_pos rfl,runT,AJ n u _ _ (by omega)]
   ·rw[if_neg h40];by_cases h41:b=41
    ·subst h41;rw[if_pos rfl,if_neg (show ¬dz 41=true by decide),if_neg (show ¬(41:UInt8)=40 by decide),if_pos rfl]
     match rows with
     |[]=>simp[runT]
     |[x]=>simp[runT]
     |x::y::z=>simp only[runT];rw[AJ n u _ _ (by omega)]
    ·rw[if_neg h41];by_cases ha:dz b=true
     ·rw[if_pos ha,if_pos ha]
      match rows with
      |[]=>simp[runT]
      |x::z=>simp only[runT];rw[AJ n _ _ _ (by omega)]
     ·rw[if_neg ha,if_neg ha,if_neg h40,if_neg h41]
      cases rows with
      |nil=>simp[runT]
      |cons x z=>simp[runT]
mutual
theorem Nu:∀(x:au),pq x=true->∀(k:List Tok)(r:List au)(z:List (List au))(c:Nat),z.length+1+lS x<=15->c+2*jd x<=1800->
 ∃d,d<=c+2*jd x/\runT (qg x++k) (r::z) c=runT k ((r++[x])::z) d
 | .mk [] l=>fun hf k r z c hd hc=>by
   rw[pq,if_pos rfl] at hf;rw[lS,if_pos rfl] at hd;rw[jd] at hc;obtain⟨d,h1,h2⟩:=KH l hf (.cl::k) [] (r::z) (c+1) (by rw[List.length_cons];omega) (by omega);refine⟨d+1,by rw[jd];omega,?_⟩;rw[qg,List.cons_append,List.cons_append,List.append_assoc];simp only[List.cons_append,List.nil_append];rw[runT,if_neg (by rw[List.length_cons];omega),h2,runT,if_neg (by omega)];rfl
 | .mk (b::u) l=>fun hf k r z c hd hc=>by
   rw[pq,if_neg (by simp)] at hf;simp only[Bool.and_eq_true,decide_eq_true_eq,List.length_eq_zero_iff] at hf;obtain⟨-,rfl⟩:=hf;have hz:jd (.mk (b::u) [])=1:=rfl;rw[hz] at hc ⊢;refine⟨c+1,by omega,?_⟩;rw[qg,List.cons_append,List.nil_append,runT,if_neg (by omega)];rfl
theorem KH:∀(l:List au),om l=true->∀(k:List Tok)(r:List au)(z:List (List au))(c:Nat),z.length+1+lH l<=15->c+2*jD l<=1800->
 ∃d,d<=c+2*jD l/\runT (qC l++k) (r::z) c=runT k ((r++l)::z) d
 |[]=>fun hf k r z c hd hc=>⟨c,by omega,by rw[qC,List.append_nil];rfl⟩
 |x::l=>fun hf k r z c hd hc=>by
  rw[om,Bool.and_eq_true] at hf;rw[lH] at hd;rw[jD] at hc;obtain⟨d,h1,h2⟩:=Nu x hf.1 (qC l++k) r z c (by omega) (by omega);obtain⟨e,h3,h4⟩:=KH l hf.2 k (r++[x]) z d (by omega) (by omega);refine⟨e,by rw[jD];omega,?_⟩;rw[qC,List.append_assoc,h2,h4,List.append_assoc];rfl
end
def Denotes(s:List UInt8)(x:au):Prop:=iQ x=true/\lex s=qg x
theorem FW{x:au}(h:iQ x=true):pq x=true/\lS x<=14/\jd x<=900:=by
 unfold iQ at h;simpa using h
theorem Ie{s:List UInt8}{x:au}(h:Denotes s x):FV (s.length+1) s [[]] 0=some [[x]]:=by
 obtain⟨h1,h2,h3⟩:=FW h.1;obtain⟨d,_,h4⟩:=Nu x h1 [] [] [] 0 (by simp;omega) (by omega);rw[AJ _ _ _ _ (Nat.lt_succ_self _),h.2,<-List.append_nil (qg x),h4];rfl
theorem Tf{s:List UInt8}{x y:au}(h:Denotes s x)(h':Denotes s y):x=y:=by
 have:=(Ie h).symm.trans (Ie h');simpa using this
open Classical in
noncomputable def lX(s:List UInt8):Bool:=dec (∃x,Denotes s x)
open Classical in
noncomputable def kr(s:List UInt8):au:=if h:∃x,Denotes s x then h.choose else dw
theorem FX{s:List UInt8}{x:au}(h:Denotes s x):lX s=true/\kr s=x:=by
 have h':∃x,Denotes s x:=⟨x,h⟩;refine⟨dQ h',?_⟩;unfold kr;rw[dif_pos h'];exact Tf h'.choose_spec h
theorem adb{s:List UInt8}(h:∀x,¬Denotes s x):lX s=false/\kr s=dw:=by
 have h':¬∃x,Denotes s x:=fun⟨x,hx⟩=>h x hx;refine⟨bK h',?_⟩;unfold kr;rw[dif_neg h']
theorem Tg{s:List UInt8}(h:lX s=true):iQ (kr s)=true:=by
 obtain⟨x,hx⟩:=gL h;rw[(FX hx).2];exact hx.1
def KI(s:List UInt8):Nat:=2*s.length+2
theorem QS(s:List UInt8):∃n,KI s<=n/\dec ((jK n ⟨s,0,0,false⟩).2.bad=false/\fG (jK n ⟨s,0,0,false⟩).2.t=[]/\iQ (jK n ⟨s,0,0,false⟩).1=true)=lX s/\(lX s=true->(jK n ⟨s,0,0,false⟩).1=kr s):=by
 by_cases h:∃x,Denotes s x
 ·obtain⟨x,hx⟩:=h;obtain⟨h1,h2,h3⟩:=FW hx.1;obtain⟨N,u,hu,hN⟩:=Nt x h1 ⟨s,0,0,false⟩ [] (by rw[List.append_nil];exact hx.2) (by simp only;omega) (by simp only;omega);refine⟨N+KI s,by omega,?_,fun _=> ?_⟩
  ·rw[hN _ (by omega),(FX hx).1];exact dQ ⟨rfl,afS hu,hx.1⟩
  ·rw[hN _ (by omega),(FX hx).2]
 ·have hno:=adb (s:=s) fun x hx=>h ⟨x,hx⟩;refine⟨KI s,Nat.le_refl _,?_,fun e=>by rw[hno.1] at e;cases e⟩;rw[hno.1];refine bK fun hq=>h ⟨_,hq.2.2,?_⟩;have:=(KF (KI s)).1 ⟨s,0,0,false⟩ hq.1;simp only at this;rw[this,lex_nil hq.2.1,List.append_nil]
def fM(s:List UInt8)(r:RS):List C:=[.d (.s s),.d (.i .i64 (s.length-r.t.length:Nat)),.d (.i .i64 r.deep),.d (.i .i64 r.size),.d (.b r.bad)]
theorem zQ{s u:List UInt8}{b:UInt8}(h:b::u <:+ s):s.length-(b::u).length<s.length/\s.getD (s.length-(b::u).length) 0=b/\s.length-(b::u).length+1=s.length-u.length:=by
 obtain⟨p,rfl⟩:=h
 have e:(p++b::u).length-(b::u).length=p.length:=by simp
 rw[e];refine⟨by simp,by simp[List.getD],by simp;omega⟩
theorem ade{s t a c:List UInt8}(h:t <:+ s)(e:t=a++c):(s.take (s.length-c.length)).drop (s.length-t.length)=a:=by
 obtain⟨p,rfl⟩:=h;subst e
 have e1:(p++(a++c)).length-c.length=(p++a).length:=by simp;omega
 have e2:(p++(a++c)).length-(a++c).length=p.length:=by simp
 rw[e1,e2,<-List.append_assoc,List.take_left,List.drop_left]
theorem KJ{s t:List UInt8}(h:t <:+ s):fG t <:+ s:=(wE t).trans h
theorem cB.ahH{P:Program}{f:FuncId}{args:List V}{t:V}{S S1:Store}(h:cB P f args S fun r S'=>Less r t/\S'=S1):cB P f args S fun r S'=>r=t/\S'=S1:=
 ⟨h.1,fun w σ β vs hS hv=>(h.2 w σ β vs hS hv).mono fun e w' ⟨v,r,S',σ',β',h1,h2,h3,h4,h5,h6,h7⟩=>⟨v,t,S',σ',β',h1,h2,h3,h4,h6 _ _ _ _ _ h5,rfl,h7⟩⟩
theorem D6:Less (.agg [.d (.s []),.bI []]) dw.v:=gy.less (.cons (.refl _) (.cons (eG _) .nil))
theorem Uk{b c:UInt8}(h:(b.toNat:Int)=c.toNat):b=c:=UInt8.toNat_inj.1 (by omega)
theorem FY(s:List UInt8)(hs:s.length<=1073741824)(r:RS)(ht:r.t <:+ s)(l j:Nat)(S:Store)(hk:bg S (l,j)=some (.box (fM s r))):
 cB prog 217 [.c (.ptr (l,j) 0)] S (fun v S'=>v=.eH []/\S'=aX S (l,j) (.box (fM s ⟨fG r.t,r.deep,r.size,r.bad⟩))):=by
 have g:∀x:Ab.Obj,bg (aX S (l,j) x) (l,j)=some x:=fun x=>dn _ _ _ _ hk;refine zcx [] func217 ntmps217 ?_;simp -implicitDefEqProofs (disch:=omega) only[go_sem]
 refine bT (ι:=List UInt8) zmx rfl [0] (fun _=>[.c (.ptr (1+l,j) 0)]) (fun t=>[]::aX S (l,j) (.box (fM s ⟨t,r.deep,r.size,r.bad⟩)))
  (fun t=>t <:+ s/\fG t=fG r.t) (fun t=>t.length) r.t rfl (congrArg (fun z=>[]::z) (Bp S (l,j) hk).symm) ⟨ht,rfl⟩ ?_
 rintro t ⟨p1,p2⟩;have pl:=p1.length_le;rw[<-p2]
 cases t with
 |nil=>
  have d:decide (((s.length-0:Nat):Int)<s.length)=false:=decide_eq_false (by omega);simp -implicitDefEqProofs (disch:=omega) only[go_sem,g,aG,ak,ah,fM,d];rfl
 |cons b u=>
  obtain⟨q1,q2,q3⟩:=zQ p1;rw[List.length_cons] at q1 q2 q3;simp -implicitDefEqProofs (disch:=omega) only[go_sem,g,aG,ak,ah,fM];generalize hA:s.length-(u.length+1)=a at q1 q2 q3 ⊢;have d:decide ((a:Int)<s.length)=true:=decide_eq_true (by omega);simp -implicitDefEqProofs (disch:=omega) only[go_sem,d,q2,g,aG,ak,ah,fM]
  (repeat(with_reducible refine And.intro ?_ ?_;focus first|omega|rfl|assumption|exact⟨_,rfl,rfl⟩|(simp;omega)|(simp;done)))
  have eI:((s.length-u.length:Nat):Int)=(a:Int)+1:=by omega
  have blank:qB b=true->[]::aX S (l,j) (.box [.d (.s s),.d (.i .i64 ((a:Int)+1)),.d (.i .i64 r.deep),.d (.i .i64 r.size),.d (.b r.bad)])=[]::aX S (l,j) (.box (fM s ⟨u,r.deep,r.size,r.bad⟩))/\u <:+ s/\fG u=fG (b::u):=fun hb=>
   ⟨by simp only[fM];rw[eI],(List.suffix_cons b u).trans p1,(KE hb).symm⟩
  with_reducible refine aD (fun hb=> ?_) (fun hb=> ?_)<;>have h:=hb<;>(try simp only[wf_preprocess] at h)<;>simp -implicitDefEqProofs (disch:=omega) only[go_sem,hb,g,aG,ak,ah,fM]<;>(repeat(with_reducible refine And.intro ?_ ?_;focus first|omega|rfl|assumption|exact⟨_,rfl,rfl⟩|(simp;omega)|(simp;done)))
  ·obtain⟨x1,x2⟩:=blank (by unfold qB;simp only[Bool.or_eq_true,decide_eq_true_eq];omega);exact dG u (by simp) rfl x1 x2
  have hn:=h;simp only[q2]
  with_reducible refine aD (fun hb=> ?_) (fun hb=> ?_)<;>have h:=hb<;>(try simp only[wf_preprocess] at h)<;>simp -implicitDefEqProofs (disch:=omega) only[go_sem,hb,g,aG,ak,ah,fM]<;>(repeat(with_reducible refine And.intro ?_ ?_;focus first|omega|rfl|assumption|exact⟨_,rfl,rfl⟩|(simp;omega)|(simp;done)))
  ·obtain⟨x1,x2⟩:=blank (by unfold qB;simp only[Bool.or_eq_true,decide_eq_true_eq];omega);exact dG u (by simp) rfl x1 x2
  ·have hb:qB b=false:=by
    cases e:qB b with
    |false=>rfl
    |true=>unfold qB at e;simp only[Bool.or_eq_true,decide_eq_true_eq] at e;omega
   rw[I6 hb,List.length_cons,hA]
theorem WM(s:List UInt8)(hs:s.length<=1048576):∀(n:Nat)(r:RS),r.t <:+ s->r.bad=false->r.deep<=14->r.size<=900->2*r.t.length+1<=n->∀(l j:Nat)(S:Store),bg S (l,j)=some (.box (fM s r))->
 cB prog 216 [.c (.ptr (l,j) 0)] S (fun v S'=>v=(jK n r).1.v/\S'=aX S (l,j) (.box (fM s (jK n r).2))):=by
 intro n
 induction n using Nat.strongRecOn with
 |_ n ih=>
 intro r ht hbad hd hz hn l j S hk
 cases n with
 |zero=>omega
 |succ n=>
 refine cB.ahH ?_;have g:∀x:Ab.Obj,bg (aX S (l,j) x) (l,j)=some x:=fun x=>dn _ _ _ _ hk;have hsk:=KJ ht;have hsl:=yK r.t;obtain⟨y,hy⟩:∃y,y=jK (n+1) r:=⟨_,rfl⟩;rw[<-hy];rw[jK] at hy;obtain⟨rt,rd,rz,rb⟩:=r
 simp only at *
 subst hbad;refine oZ [219] (rs:=[.cell 2 202]) zmx func216 ntmps216 rfl rfl rfl rfl rfl ?_;simp -implicitDefEqProofs (disch:=omega) only[go_sem];refine bn rfl (FY s (by omega) _ ht (1+l) j _ (by rw[aG];exact hk)) ?_;simp -implicitDefEqProofs (disch:=omega) only[go_sem,g,aG,ak,ah,fM]
 cases e:fG rt with
 |nil=>
  rw[e] at hy;simp only at hy;have d:decide ((s.length:Int)<=((s.length-0:Nat):Int))=true:=decide_eq_true (by omega);simp -implicitDefEqProofs (disch:=omega) only[go_sem,d,g,aG,ak,ah,fM];refine⟨by rfl,?_⟩;simp -implicitDefEqProofs (disch:=omega) only[go_sem,g,aG,ak,ah,fM];subst hy;exact⟨D6,rfl⟩
 |cons b u=>
  rw[e] at hy hsk hsl;simp only at hy;obtain⟨q1,q2,q3⟩:=zQ hsk;rw[List.length_cons] at q1 q2 q3 hsl;simp -implicitDefEqProofs (disch:=omega) only[go_sem,g,aG,ak,ah,fM];generalize hA:s.length-(u.length+1)=a at q1 q2 q3 ⊢;have d:decide ((s.length:Int)<=(a:Int))=false:=decide_eq_false (by omega);simp -implicitDefEqProofs (disch:=omega) only[go_sem,d,g,aG,ak,ah,fM];refine⟨by rfl,?_⟩;simp -implicitDefEqProofs (disch:=omega) only[go_sem,g,aG,ak,ah,fM]
  with_reducible refine aD (fun hb=> ?_) (fun hb=> ?_)<;>have h:=hb<;>(try simp only[wf_preprocess] at h)<;>simp -implicitDefEqProofs (disch:=omega) only[go_sem,hb,g,aG,ak,ah,fM]<;>(repeat(with_reducible refine And.intro ?_ ?_;focus first|omega|rfl|assumption|exact⟨_,rfl,rfl⟩|(simp;omega)|(simp;done)))
  ·rw[if_pos (by omega)] at hy;subst hy;refine⟨D6,?_⟩;rw[<-hA];simp only[fM];rfl
  have hsz:¬900<rz+1:=by omega
  rw[if_neg hsz] at hy;clear h hb;obtain⟨z,hzd⟩:∃z,z=(b::u).dropWhile dz:=⟨_,rfl⟩
  refine IZ [219] zmx rfl [0,2,3] (ι:=List UInt8) (fun _=>[.c (.ptr (1+l,j) 0),.c (.ptr (0,0) 0),.c (.d (.i .i64 a))])
   (fun t=>[.box [.d (.s []),.bI []]]::aX S (l,j) (.box (fM s ⟨t,rd,rz+1,false⟩)))
   (fun t=>t <:+ b::u/\t.dropWhile dz=z) (fun t=>t.length) (b::u) rfl (by rw[<-hA];simp only[fM];rfl) ⟨List.suffix_refl _,hzd.symm⟩ ?_
  rintro t ⟨p1,p2⟩;have p3:=p1.trans hsk;have p4:=p3.length_le
  have ex:(t=[]\/∃c v,t=c::v/\dz c=false)\/∃c v,t=c::v/\dz c=true:=by
   cases t with
   |nil=>exact .inl (.inl rfl)
   |cons c v=>cases hc:dz c with
    |false=>exact .inl (.inr ⟨c,v,rfl,hc⟩)
    |true=>exact .inr ⟨c,v,rfl,hc⟩
  rcases ex with ex|⟨c,v,rfl,hc⟩
  rotate_left
  ·obtain⟨k1,k2,k3⟩:=zQ p3;rw[List.length_cons] at k1 k2 k3;simp -implicitDefEqProofs (disch:=omega) only[go_sem,g,aG,ak,ah,fM];generalize hB:s.length-(v.length+1)=m at k1 k2 k3 ⊢;have d1:decide ((m:Int)<s.length)=true:=decide_eq_true (by omega);simp -implicitDefEqProofs (disch:=omega) only[go_sem,d1,g,aG,ak,ah,fM]
   (repeat(with_reducible refine And.intro ?_ ?_;focus first|omega|rfl|assumption|exact⟨_,rfl,rfl⟩|(simp;omega)|(simp;done)))
   rw[k2];refine aB (FQ c) ?_;rw[hc];simp -implicitDefEqProofs (disch:=omega) only[go_sem,g,aG,ak,ah,fM];refine⟨by rfl,?_⟩;simp -implicitDefEqProofs (disch:=omega) only[go_sem,g,aG,ak,ah,fM];refine dG v (by simp) rfl ?_ ⟨(List.suffix_cons c v).trans p1,?_⟩
   ·have eI:((s.length-v.length:Nat):Int)=(m:Int)+1:=by omega
    simp only[fM];rw[eI]
    first|done|rfl
   ·rw[<-p2,List.dropWhile_cons,if_pos hc]
  have hzt:z=t:=by
   rw[<-p2];rcases ex with rfl|⟨c,v,rfl,hc⟩
   ·rfl
   ·rw[List.dropWhile_cons,if_neg (by rw[hc];decide)]
  subst hzt;obtain⟨m,hm⟩:∃m,m=s.length-z.length:=⟨_,rfl⟩
  have hyes:dz b=true->(s.take m).drop a=b::u.takeWhile dz/\a<m/\m=s.length-(u.dropWhile dz).length:=fun hab=>by
   have e1:z=u.dropWhile dz:=by rw[hzd,List.dropWhile_cons,if_pos hab]
   have e2:(u.dropWhile dz).length<=u.length:=(List.dropWhile_suffix dz).length_le;have e3:=ade (a:=b::u.takeWhile dz) (c:=z) hsk (by rw[e1,List.cons_append,List.takeWhile_append_dropWhile]);rw[<-hm,List.length_cons,hA] at e3;have e4:=hsk.length_le;rw[List.length_cons] at e4;rw[e1] at hm;exact⟨e3,by omega,hm⟩
  have hno:dz b=false->m=a:=fun hab=>by
   have e1:z=b::u:=by rw[hzd,List.dropWhile_cons,if_neg (by rw[hab];decide)]
   rw[hm,e1,List.length_cons,hA]
  clear p1 p2 p4 hzd;rcases ex with rfl|⟨c,v,rfl,hc⟩;rw[List.length_nil] at hm;have d1:decide ((m:Int)<s.length)=false:=decide_eq_false (by omega);simp -implicitDefEqProofs (disch:=omega) only[go_sem,g,aG,ak,ah,fM];rw[<-hm];simp -implicitDefEqProofs (disch:=omega) only[go_sem,d1,g,aG,ak,ah,fM];refine⟨by rfl,?_⟩;simp -implicitDefEqProofs (disch:=omega) only[go_sem,g,aG,ak,ah,fM]
  rotate_left
  obtain⟨k1,k2,k3⟩:=zQ p3;rw[List.length_cons] at k1 k2 k3 hm;simp -implicitDefEqProofs (disch:=omega) only[go_sem,g,aG,ak,ah,fM];rw[<-hm] at k1 k2 k3 ⊢;have d1:decide ((m:Int)<s.length)=true:=decide_eq_true (by omega);simp -implicitDefEqProofs (disch:=omega) only[go_sem,d1,g,aG,ak,ah,fM]
  (repeat(with_reducible refine And.intro ?_ ?_;focus first|omega|rfl|assumption|exact⟨_,rfl,rfl⟩|(simp;omega)|(simp;done)))
  rw[k2];refine aB (FQ c) ?_;rw[hc];simp -implicitDefEqProofs (disch:=omega) only[go_sem,g,aG,ak,ah,fM];refine⟨by rfl,?_⟩;simp -implicitDefEqProofs (disch:=omega) only[go_sem,g,aG,ak,ah,fM]
  all_goals clear p3 hm d1
  all_goals
   cases hab:dz b with
   |true=>
    obtain⟨r1,r2,r3⟩:=hyes hab;have d2:decide ((a:Int)<(m:Int))=true:=decide_eq_true (by omega);rw[if_pos hab] at hy;simp -implicitDefEqProofs (disch:=omega) only[go_sem,d2,g,aG,ak,ah,fM]
    (repeat(with_reducible refine And.intro ?_ ?_;focus first|omega|rfl|assumption|exact⟨_,rfl,rfl⟩|(simp;omega)|(simp;done)))
    refine⟨by rfl,?_⟩;simp -implicitDefEqProofs (disch:=omega) only[go_sem,g,aG,ak,ah,fM];rw[r1];subst hy;refine⟨gy.less (.cons (.refl _) (.cons (eG _) .nil)),?_⟩;simp only[fM,<-r3]
    first|done|rfl
   |false=>
    obtain rfl:=hno hab;have d2:decide ((m:Int)<(m:Int))=false:=decide_eq_false (by omega);rw[if_neg (by rw[hab];decide)] at hy;clear hyes hno;simp -implicitDefEqProofs (disch:=omega) only[go_sem,d2,g,aG,ak,ah,fM]
    (repeat(with_reducible refine And.intro ?_ ?_;focus first|omega|rfl|assumption|exact⟨_,rfl,rfl⟩|(simp;omega)|(simp;done)))
    simp only[q2]
    have Ml:b≠40\/rd=14->Less (.agg [.d (.s []),.bI []]) y.1.v/\aX S (l,j) (.box [.d (.s s),.d (.i .i64 m),.d (.i .i64 rd),.d (.i .i64 (rz+1:Nat)),.d (.b true)])=aX S (l,j) (.box (fM s y.2)):=fun hq=>by
     rw[if_pos hq] at hy;subst hy;refine⟨D6,?_⟩;rw[<-hA];simp only[fM];rfl
    with_reducible refine aD (fun hb=> ?_) (fun hb=> ?_)<;>have h:=hb<;>(try simp only[wf_preprocess] at h)<;>simp -implicitDefEqProofs (disch:=omega) only[go_sem,hb,g,aG,ak,ah,fM]<;>(repeat(with_reducible refine And.intro ?_ ?_;focus first|omega|rfl|assumption|exact⟨_,rfl,rfl⟩|(simp;omega)|(simp;done)))
    ·refine⟨by rfl,?_⟩;simp -implicitDefEqProofs (disch:=omega) only[go_sem,g,aG,ak,ah,fM];exact Ml (.inl fun hq=>h (by rw[hq];rfl))
    have alF:b=40:=Uk h;refine⟨by rfl,?_⟩;simp -implicitDefEqProofs (disch:=omega) only[go_sem,g,aG,ak,ah,fM]
    with_reducible refine aD (fun hb=> ?_) (fun hb=> ?_)<;>have h:=hb<;>(try simp only[wf_preprocess] at h)<;>simp -implicitDefEqProofs (disch:=omega) only[go_sem,hb,g,aG,ak,ah,fM]<;>(repeat(with_reducible refine And.intro ?_ ?_;focus first|omega|rfl|assumption|exact⟨_,rfl,rfl⟩|(simp;omega)|(simp;done)))
    ·exact Ml (.inr (by omega))
    have ahI:¬(b≠40\/rd=14):=by rintro(h1|h1);exact h1 alF;omega
    rw[if_neg ahI] at hy;clear Ml d2 d ahI hab;refine jr 1 1 2 _ rfl rfl ?_
    refine IZ [219] zmx rfl [0,2,4] (ι:=Nat×RS×List au) (fun _=>[.c (.ptr (1+l,j) 0),.c (.ptr (0,0) 0),.c (.ptr (0,1) 0)])
     (fun x=>[.box [.d (.s []),.bI []],.box [.d (.s []),.bX (0,2) (x.2.2.map au.enc)],.tok 2 (x.2.2.map au.enc)]::aX S (l,j) (.box (fM s x.2.1)))
     (fun x=>nI x.1 x.2.1 x.2.2=y/\x.2.1.t <:+ s/\x.2.1.deep<=14/\x.2.1.size<=901/\(x.2.1.bad=false->1<=x.2.1.deep/\x.2.1.size<=900)/\x.2.2.length<=x.2.1.size/\(x.2.1.bad=true/\1<=x.1\/2*x.2.1.t.length+2<=x.1)/\x.1<=n) (fun x=>x.1)
     (n,⟨u,rd+1,rz+1,false⟩,[]) rfl ?_ ⟨hy.symm,(List.suffix_cons b u).trans hsk,by simp only;omega,by simp only;omega,fun _=>by simp only;omega,by simp only[List.length_nil];omega,.inr (by simp only;omega),Nat.le_refl _⟩ ?_
    ·have eI:((s.length-u.length:Nat):Int)=(m:Int)+1:=by omega
     simp only[fM,eI];rfl
    rintro⟨f,⟨t,dp,zz,bd⟩,acc⟩ ⟨p1,p2,p3,p4,p5,p6,p7,p8⟩;simp only at p1 p2 p3 p4 p5 p6 p7 p8;simp -implicitDefEqProofs (disch:=omega) only[go_sem,g,aG,ak,ah,fM]
    cases bd with
    |true=>
     simp -implicitDefEqProofs (disch:=omega) only[go_sem,g,aG,ak,ah,fM]
     cases f with
     |zero=>omega
     |succ f=>
      rw[nI,if_pos rfl] at p1;subst p1;exact⟨jv _,rfl⟩
    |false=>
     have p5:=p5 rfl;have p7:=p7.resolve_left fun h=>Bool.noConfusion h.1;simp -implicitDefEqProofs (disch:=omega) only[go_sem,g,aG,ak,ah,fM];refine bn rfl (FY s (by omega) ⟨t,dp,zz,false⟩ p2 (1+l) j _ (by rw[aG];exact g _)) ?_;simp -implicitDefEqProofs (disch:=omega) only[go_sem,g,aG,ak,ah,fM]
     cases f with
     |zero=>omega
     |succ f=>
     rw[nI,if_neg Bool.false_ne_true] at p1;have k1:=KJ p2;have k0:=k1;have k2:=yK t;have k3:=k2;have k4:=k1.length_le;obtain⟨q,hq⟩:∃q,q=jK f ⟨fG t,dp,zz,false⟩:=⟨_,rfl⟩;have hcall:=ih f (by omega) ⟨fG t,dp,zz,false⟩ k1 rfl p3 p5.2 (by simp only;omega);have ahJ:=(Mk f).1 ⟨fG t,dp,zz,false⟩ p3 p5.2;simp only at p1;rw[<-hq] at hcall ahJ p1;obtain⟨o1,o2,o3,o4,o5,o6⟩:=ahJ;simp only at o1 o2 o4 o5 o6;have o7:=o1.length_le
     have ek:(fG t=[]\/∃c v,fG t=c::v/\c≠41)\/∃v,fG t=41::v:=by
      cases fG t with
      |nil=>exact .inl (.inl rfl)
      |cons c v=>by_cases hc:c=41
                 ·subst hc;exact .inr ⟨v,rfl⟩
                 ·exact .inl (.inr ⟨c,v,rfl,hc⟩)
     rcases ek with ek|⟨v,e2⟩
     rotate_left
     ·rw[e2] at k1 k2 p1 ⊢;obtain⟨w1,w2,w3⟩:=zQ k1;rw[List.length_cons] at w1 w2 w3;have d1:decide (((s.length-(v.length+1):Nat):Int)<s.length)=true:=decide_eq_true (by omega);rw[if_pos (show(41::v).head? =some 41 from rfl)] at p1;simp -implicitDefEqProofs (disch:=omega) only[go_sem,d1,g,aG,ak,ah,fM]
      (repeat(with_reducible refine And.intro ?_ ?_;focus first|omega|rfl|assumption|exact⟨_,rfl,rfl⟩|(simp;omega)|(simp;done)))
      rw[w2];refine⟨by rfl,?_⟩
      have d2:decide ((((41:UInt8).toNat:Nat):Int)=41)=true:=by decide
      simp -implicitDefEqProofs (disch:=omega) only[go_sem,d2,g,aG,ak,ah,fM];subst p1
      have e3:((s.length-v.length:Nat):Int)=((s.length-(v.length+1):Nat):Int)+1:=by omega
      have e4:((dp-1:Nat):Int)=(dp:Int)-1:=by omega
      refine⟨jv _,?_⟩;simp only[List.tail_cons,e3,e4]
     have hne:(fG t).head? ≠some 41:=by
      rcases ek with e2|⟨c,v,e2,hc⟩
      ·rw[e2];simp
      ·rw[e2];simpa using hc
     rw[if_neg hne] at p1;rcases ek with e2|⟨c,v,e2,hc⟩;have d1:decide (((s.length-0:Nat):Int)<s.length)=false:=decide_eq_false (by omega);rw[e2];simp -implicitDefEqProofs (disch:=omega) only[go_sem,d1,g,aG,ak,ah,fM];refine⟨by rfl,?_⟩;simp -implicitDefEqProofs (disch:=omega) only[go_sem,g,aG,ak,ah,fM]
     rotate_left
     rw[e2] at k1 k2 ⊢;obtain⟨w1,w2,w3⟩:=zQ k1;rw[List.length_cons] at w1 w2 w3;have d1:decide (((s.length-(v.length+1):Nat):Int)<s.length)=true:=decide_eq_true (by omega);simp -implicitDefEqProofs (disch:=omega) only[go_sem,d1,g,aG,ak,ah,fM]
     (repeat(with_reducible refine And.intro ?_ ?_;focus first|omega|rfl|assumption|exact⟨_,rfl,rfl⟩|(simp;omega)|(simp;done)))
     simp only[w2];refine⟨by rfl,?_⟩;have d2:decide ((c.toNat:Int)=41)=false:=decide_eq_false fun hq=>hc (Uk (c:=41) hq);simp -implicitDefEqProofs (disch:=omega) only[go_sem,d2,g,aG,ak,ah,fM]
     all_goals
      refine bn rfl (hcall (1+l) j _ (by rw[aG,e2];exact g _)) ?_;simp -implicitDefEqProofs (disch:=omega) only[go_sem,g,aG,ak,ah,fM]
      (repeat(with_reducible refine And.intro ?_ ?_;focus first|omega|rfl|assumption|exact⟨_,rfl,rfl⟩|(simp;omega)|(simp;done)))
      refine⟨by cases l<;>rfl,?_⟩;simp -implicitDefEqProofs (disch:=omega) only[go_sem,g,aG,ak,ah,fM];refine dG (f,q.2,acc++[q.1]) (by simp) rfl ?_ ⟨p1,o1.trans k0,o3,o4.2,fun hq=>⟨by simp only;rw[o2 hq];exact p5.1,(o6 hq).2⟩,?_,?_,by simp only;omega⟩
      ·simp only[List.map_append,List.map_cons,List.map_nil,au.aj,fM]
      ·simp only[List.length_append,List.length_cons,List.length_nil];omega
      ·cases hqb:q.2.bad with
       |true=>exact .inl ⟨rfl,by simp only;omega⟩
       |false=>
        have:=(o6 hqb).1;exact .inr (by simp only;omega)
theorem Ow(s:List UInt8)(hs:s.length<=1048576):bq prog 191 [.c (.d (.s s))] (.eH [(true,(kr s).enc.map .d),(false,[.d (.b (lX s))])]):=bq.of_le fun S=>by
 obtain⟨n,hn,hok,hx⟩:=QS s;obtain⟨q,hq⟩:∃q,q=jK n ⟨s,0,0,false⟩:=⟨_,rfl⟩;have hr:=(Mk n).1 ⟨s,0,0,false⟩ (by simp only;omega) (by simp only;omega);have hc:=WM s hs n ⟨s,0,0,false⟩ (List.suffix_refl _) rfl (by simp only;omega) (by simp only;omega) (by unfold KI at hn;simp only;omega);rw[<-hq] at hok hx hr hc;clear hq hn;obtain⟨o1,o2,o3,o4,o5,o6⟩:=hr;simp only at o1 o2 o4 o5 o6
 have jE:lX s=false->Less (.eH [(true,[.d (.s []),.bI []]),(false,[.d (.b false)])]) (.eH [(true,[.d (.s (kr s).bC),.d (.sl ((kr s).aA.map au.enc))]),(false,[.d (.b (lX s))])]):=fun e=>by
  have e2:kr s=dw:=by
   unfold kr;rw[dif_neg (j5 e)]
  rw[e,e2];exact(jR.cons (.cons (.refl _) (.cons (eG _) .nil)) (.refl _)).less
 have hsl:=yK q.2.t
 have hsz:q.1.sz<=67108864:=by omega
 refine zcx [.cell 2 202,.tmp 3] func191 ntmps191 ?_;simp -implicitDefEqProofs (disch:=omega) only[go_sem];refine bn rfl (hc 0 1 _ (by simp[bg,fM])) ?_;simp -implicitDefEqProofs (disch:=omega) only[go_sem,fM];refine bn rfl (FY s (by omega) q.2 o1 0 1 _ rfl) ?_;simp -implicitDefEqProofs (disch:=omega) only[go_sem,fM]
 cases hqb:q.2.bad with
 |true=>
  simp -implicitDefEqProofs (disch:=omega) only[go_sem];exact jE (by rw[<-hok];exact bK fun h=>by rw[hqb] at h;cases h.1)
 |false=>
  simp -implicitDefEqProofs (disch:=omega) only[go_sem]
  with_reducible refine aD (fun hb=> ?_) (fun hb=> ?_)<;>have h:=hb<;>(try simp only[wf_preprocess] at h)<;>simp -implicitDefEqProofs (disch:=omega) only[go_sem,hb]<;>(repeat(with_reducible refine And.intro ?_ ?_;focus first|omega|rfl|assumption|exact⟨_,rfl,rfl⟩|(simp;omega)|(simp;done)))
  ·refine jE ?_;rw[<-hok];refine bK fun hq=> ?_;rw[hq.2.1] at h;exact h (by simp)
  have hnil:fG q.2.t=[]:=List.eq_nil_of_length_eq_zero (by have:=o1.length_le;omega);refine aB (lJ q.1 hsz) ?_;simp -implicitDefEqProofs (disch:=omega) only[go_sem]
  with_reducible refine aD (fun hb=> ?_) (fun hb=> ?_)<;>have h:=hb<;>(try simp only[wf_preprocess] at h)<;>simp -implicitDefEqProofs (disch:=omega) only[go_sem,hb]<;>(repeat(with_reducible refine And.intro ?_ ?_;focus first|omega|rfl|assumption|exact⟨_,rfl,rfl⟩|(simp;omega)|(simp;done)))
  ·refine jE ?_;rw[<-hok];refine bK fun hq=> ?_;rw[hq.2.2] at h;cases h
  ·have hy:lX s=true:=by rw[<-hok];exact dQ ⟨hqb,hnil,h⟩
   rw[hy,<-hx hy];exact jv _
end Go.Ab