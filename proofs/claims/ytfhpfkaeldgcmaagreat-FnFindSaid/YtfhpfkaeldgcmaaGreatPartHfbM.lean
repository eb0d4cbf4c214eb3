/-
  SEVERAL TEXTS IN ONE (merged by program): contracts and models, each with its own heading.
-/
import Derived.Test.YtfhpfkaeldgcmaaGreatPartHfbE
import Derived.Test.YtfhpfkaeldgcmaaGreatPartHfbL
set_option maxHeartbeats 8000000
open Go.Proofs Go.Proofs.Tryz
set_option linter.unusedSimpArgs false
set_option linter.unusedVariables false
set_option maxRecDepth 4000
namespace Go.Ab
def qM(b:UInt8):Bool:=decide (b.toNat=32)||decide (b.toNat=10)
def fH(l:List UInt8):List UInt8:=l.dropWhile qM
theorem wW(l:List UInt8):fH l <:+ l:=List.dropWhile_suffix _
theorem za(l:List UInt8):(fH l).length<=l.length:=(wW l).length_le
theorem XI{l u:List UInt8}{b:UInt8}(h:fH l=b::u):qM b=false:=by
 induction l with
 |nil=>cases h
 |cons a l ih=>
  unfold fH at h ih;rw[List.dropWhile_cons] at h;split at h
  ·exact ih h
  ·rename_i h1;injection h with h2 h3;subst h2;simpa using h1
theorem JB{b:UInt8}{u:List UInt8}(h:qM b=false):fH (b::u)=b::u:=by
 unfold fH;rw[List.dropWhile_cons,h];rfl
theorem La{b:UInt8}{u:List UInt8}(h:qM b=true):fH (b::u)=fH u:=by
 unfold fH;rw[List.dropWhile_cons,h];rfl
structure RS where
 t:List UInt8
 deep:Nat
 size:Nat
 bad:Bool
mutual
def jR:Nat->RS->au×RS
 |0,r=>(dz,⟨r.t,r.deep,r.size+1,true⟩)
 |n+1,r=>match fH r.t with
  |[]=>(dz,⟨[],r.deep,r.size+1,true⟩)
  |b::u=>if 900<r.size+1 then(dz,⟨b::u,r.deep,r.size+1,true⟩) else
   if dD b=true then(bR (b::u.takeWhile dD),⟨u.dropWhile dD,r.deep,r.size+1,false⟩) else
   if b≠40\/r.deep=14 then(dz,⟨b::u,r.deep,r.size+1,true⟩) else nN n ⟨u,r.deep+1,r.size+1,false⟩ []
def nN:Nat->RS->List au->au×RS
 |0,r,acc=>(eD acc,⟨r.t,r.deep,r.size,true⟩)
 |n+1,r,acc=>if r.bad=true then(eD acc,r) else
  if(fH r.t).head? =some 41 then(eD acc,⟨(fH r.t).tail,r.deep-1,r.size,false⟩) else
  nN n (jR n ⟨fH r.t,r.deep,r.size,false⟩).2 (acc++[(jR n ⟨fH r.t,r.deep,r.size,false⟩).1])
end
structure amz(x:au)(r r':RS):Prop where
 suf:r'.t <:+ r.t
 deep:r'.bad=false->r'.deep=r.deep
 low:r'.deep<=14
 size:r.size+1<=r'.size/\r'.size<=901
 sz:x.sz+1<=(r.t.length-r'.t.length)+(r'.size-r.size)
 go:r'.bad=false->r'.t.length<r.t.length/\r'.size<=900
structure amA(acc:List au)(x:au)(r r':RS):Prop where
 suf:r'.t <:+ r.t
 deep:r'.bad=false->r'.deep=r.deep-1/\r.bad=false/\r'.size<=900
 low:r'.deep<=14
 size:r.size<=r'.size/\r'.size<=901
 sz:∃l,x=eD (acc++l)/\l.length+dK l<=(r.t.length-r'.t.length)+(r'.size-r.size)/\l.length<=r'.size-r.size
theorem M7:∀n:Nat,(∀r:RS,r.deep<=14->r.size<=900->amz (jR n r).1 r (jR n r).2)/\
 (∀(r:RS) (acc:List au),r.deep<=14->r.size<=901->(r.bad=false->1<=r.deep/\r.size<=900)->amA acc (nN n r acc).1 r (nN n r acc).2)
 |0=>by
  refine⟨fun r h1 h2=> ?_,fun r acc h1 h2 h3=> ?_⟩
  ·rw[jR];exact⟨List.suffix_refl _,(fun h=>by cases h),h1,⟨Nat.le_refl _,by simp only;omega⟩,by simp[dz,iX,au.bK,au.aA,aN],(fun h=>by cases h)⟩
  ·rw[nN];exact⟨List.suffix_refl _,(fun h=>by cases h),h1,⟨Nat.le_refl _,h2⟩,[],by rw[List.append_nil],by simp[dK],by simp⟩
 |n+1=>by
  obtain⟨ih1,ih2⟩:=M7 n
  have z0:dz.sz=0:=by simp[dz,iX,au.bK,au.aA,aN]
  refine⟨fun r h1 h2=> ?_,fun r acc h1 h2 h3=> ?_⟩
  ·rw[jR];have hs:=wW r.t;split
   ·rename_i e;rw[e] at hs;exact⟨hs,(fun h=>by cases h),h1,⟨Nat.le_refl _,by simp only;omega⟩,by simp only[z0];omega,(fun h=>by cases h)⟩
   ·rename_i b u e;rw[e] at hs;have hl:=hs.length_le;rw[List.length_cons] at hl;split
    ·exact⟨hs,(fun h=>by cases h),h1,⟨Nat.le_refl _,by simp only;omega⟩,by simp only[z0];omega,(fun h=>by cases h)⟩
    ·split
     ·have hd:u.dropWhile dD <:+ u:=List.dropWhile_suffix _;have hdl:=hd.length_le
      have htd:(u.takeWhile dD).length+(u.dropWhile dD).length=u.length:=by
       rw[<-List.length_append,List.takeWhile_append_dropWhile]
      refine⟨(hd.trans (List.suffix_cons b u)).trans hs,fun _=>rfl,h1,⟨Nat.le_refl _,by simp only;omega⟩,?_,fun _=> ?_⟩
      ·rw[jf,List.length_cons];simp only;omega
      ·simp only;omega
     ·split
      ·exact⟨hs,(fun h=>by cases h),h1,⟨Nat.le_refl _,by simp only;omega⟩,by simp only[z0];omega,(fun h=>by cases h)⟩
      ·have hc:=ih2 ⟨u,r.deep+1,r.size+1,false⟩ [] (by simp only;omega) (by simp only;omega) (fun _=>by simp only;omega);obtain⟨c1,c2,c3,c4,l,c5,c6,c7⟩:=hc;have c8:=c1.length_le;simp only at c1 c2 c4 c6 c7 c8;refine⟨(c1.trans (List.suffix_cons b u)).trans hs,fun h=>by rw[(c2 h).1];omega,c3,⟨by omega,c4.2⟩,?_,fun h=>⟨by omega,(c2 h).2.2⟩⟩;rw[c5,List.nil_append,jg];omega
  ·rw[nN];have hs:=wW r.t;have hl:=hs.length_le;split
   ·exact⟨List.suffix_refl _,(fun h=>by rename_i hb;rw[hb] at h;cases h),h1,⟨Nat.le_refl _,h2⟩,[],by rw[List.append_nil],by simp[dK],by simp⟩
   ·rename_i hb
    have hb':r.bad=false:=by simpa using hb
    have h3':=h3 hb';split
    ·have ht:(fH r.t).tail <:+ fH r.t:=List.tail_suffix _;refine⟨ht.trans hs,fun _=>⟨rfl,hb',h3'.2⟩,by simp only;omega,⟨Nat.le_refl _,h2⟩,[],by rw[List.append_nil],by simp[dK],by simp⟩
    ·have hc:=ih1 ⟨fH r.t,r.deep,r.size,false⟩ h1 h3'.2;obtain⟨x,hx⟩:∃x,x=jR n ⟨fH r.t,r.deep,r.size,false⟩:=⟨_,rfl⟩;rw[<-hx] at hc ⊢;clear hx;obtain⟨c1,c2,c3,c4,c5,c6⟩:=hc;simp only at c1 c2 c4 c5 c6;have c7:=c1.length_le;obtain⟨d1,d2,d3,d4,l,d5,d6,d7⟩:=ih2 x.2 (acc++[x.1]) c3 c4.2 (fun hq=>⟨by rw[c2 hq];exact h3'.1,(c6 hq).2⟩);have d8:=d1.length_le;refine⟨(d1.trans c1).trans hs,fun hq=>⟨by rw[(d2 hq).1,c2 (d2 hq).2.1],hb',(d2 hq).2.2⟩,d3,⟨by omega,d4.2⟩,x.1::l,by rw[d5,List.append_assoc];rfl,?_,?_⟩
     ·rw[List.length_cons,dK];omega
     ·rw[List.length_cons];omega
inductive Tok where
 |op
 |cl
 |wd (b:UInt8) (u:List UInt8)
 |no
def CS:Nat->List UInt8->List Tok
 |0,_=>[]
 |n+1,l=>match fH l with
  |[]=>[]
  |b::u=>if dD b=true then .wd b (u.takeWhile dD)::CS n (u.dropWhile dD) else if b=40 then .op::CS n u else if b=41 then .cl::CS n u else [.no]
theorem Ic:∀(n m:Nat)(l:List UInt8),l.length<n->l.length<m->CS n l=CS m l
 |0,m,l,h,_=>by omega
 |n+1,0,l,_,h=>by omega
 |n+1,m+1,l,h1,h2=>by
  rw[CS,CS];have hs:=za l;split
  ·rfl
  ·rename_i b u e;rw[e,List.length_cons] at hs;have hd:(u.dropWhile dD).length<=u.length:=(List.dropWhile_suffix dD).length_le;rw[Ic n m u (by omega) (by omega),Ic n m (u.dropWhile dD) (by omega) (by omega)]
def lex(l:List UInt8):List Tok:=CS (l.length+1) l
theorem lex_nil{l:List UInt8}(h:fH l=[]):lex l=[]:=by
 unfold lex;rw[CS,h]
theorem qp{l u:List UInt8}{b:UInt8}(h:fH l=b::u):lex l=if dD b=true then .wd b (u.takeWhile dD)::lex (u.dropWhile dD) else if b=40 then .op::lex u else if b=41 then .cl::lex u else [.no]:=by
 have hs:=za l;rw[h,List.length_cons] at hs;have hd:(u.dropWhile dD).length<=u.length:=(List.dropWhile_suffix dD).length_le;unfold lex;rw[CS,h]
 simp only
 rw[Ic _ (u.length+1) u (by omega) (by omega),Ic _ ((u.dropWhile dD).length+1) (u.dropWhile dD) (by omega) (by omega)]
theorem Eu(l:List UInt8):lex (fH l)=lex l:=by
 cases h:fH l with
 |nil=>rw[lex_nil h];rfl
 |cons b u=>rw[qp h,qp (l:=b::u) (JB (XI h))]
theorem agL{l:List UInt8}(h:lex l=[]):fH l=[]:=by
 cases e:fH l with
 |nil=>rfl
 |cons b u=>
  rw[qp e] at h;split at h
  ·cases h
  ·split at h
   ·cases h
   ·split at h<;>cases h
mutual
def qz:au->List Tok
 | .mk [] l=>.op::qN l++[.cl]
 | .mk (b::u) _=>[.wd b u]
def qN:List au->List Tok
 |[]=>[]
 |x::xs=>qz x++qN xs
end
theorem XJ(l:List au):qz (eD l)=.op::qN l++[.cl]:=by unfold eD;rw[qz]
theorem XK(b:UInt8)(u:List UInt8):qz (bR (b::u))=[.wd b u]:=by unfold bR;rw[qz]
theorem Lb:∀n:Nat,(∀r:RS,(jR n r).2.bad=false->lex r.t=qz (jR n r).1++lex (jR n r).2.t)/\
 (∀(r:RS) (acc:List au),(nN n r acc).2.bad=false->∃l,(nN n r acc).1=eD (acc++l)/\lex r.t=qN l++ .cl::lex (nN n r acc).2.t)
 |0=>⟨fun r h=>(by rw[jR] at h;cases h),fun r acc h=>(by rw[nN] at h;cases h)⟩
 |n+1=>by
  obtain⟨ih1,ih2⟩:=Lb n;refine⟨fun r h=> ?_,fun r acc h=> ?_⟩
  ·rw[jR] at h ⊢;split at h
   ·cases h
   ·rename_i b u e;split at h
    ·cases h
    ·rename_i h1;rw[qp e];simp only[h1,if_false];split at h
     ·rename_i h2;rw[if_pos h2];simp only[h2,if_true];rw[XK];rfl
     ·rename_i h2;split at h
      ·cases h
      ·rename_i h3;have hb:b=40:=Classical.byContradiction fun hb=>h3 (.inl hb);simp only[if_neg h2,if_neg h3,if_pos hb];obtain⟨l,q1,q2⟩:=ih2 _ [] h;rw[q1,List.nil_append,XJ];simp only at q2;rw[q2]
       simp
  ·rw[nN] at h ⊢;split at h
   ·rename_i hb;rw[hb] at h;cases h
   ·rename_i hb;rw[if_neg hb];split at h
    ·rename_i h1;rw[if_pos h1];refine⟨[],by rw[List.append_nil],?_⟩
     cases e:fH r.t with
     |nil=>rw[e] at h1;cases h1
     |cons b u=>
      rw[e] at h1
      have hb:b=41:=by simpa using h1
      subst hb;rw[qp e];rfl
    ·rename_i h1;rw[if_neg h1];obtain⟨l,q1,q2⟩:=ih2 _ _ h
     have hx:(jR n ⟨fH r.t,r.deep,r.size,false⟩).2.bad=false:=by
      cases hq:(jR n ⟨fH r.t,r.deep,r.size,false⟩).2.bad with
      |false=>rfl
      |true=>
       exfalso;revert h
       cases n with
       |zero=>rw[nN];simp
       |succ n=>rw[nN,if_pos hq,hq];simp
     have h2:=ih1 _ hx;simp only at h2;rw[Eu] at h2;refine⟨(jR n ⟨fH r.t,r.deep,r.size,false⟩).1::l,by rw[q1,List.append_assoc];rfl,?_⟩;rw[h2,q2,qN,List.append_assoc]
mutual
theorem Oi:∀(x:au),pK x=true->∀(r:RS)(k:List Tok),lex r.t=qz x++k->r.size+ji x<=900->r.deep+lZ x<=14->
 ∃(N:Nat) (u:List UInt8),lex u=k/\∀n,N<=n->jR n r=(x,⟨u,r.deep,r.size+ji x,false⟩)
 | .mk a l=>fun hf r k hk hn hd=>by
   cases a with
   |nil=>
    rw[qz] at hk
    have hf':oC l=true:=by rw[pK,if_pos rfl] at hf;exact hf
    have hn':r.size+(jJ l+1)<=900:=by rw[ji] at hn;exact hn
    have hd':r.deep+(lT l+1)<=14:=by rw[lZ,if_pos rfl] at hd;exact hd
    cases e:fH r.t with
    |nil=>rw[lex_nil e] at hk;simp at hk
    |cons b u=>
     rw[qp e] at hk
     have hb:dD b=false/\b=40/\lex u=qN l++ .cl::k:=by
      split at hk
      ·simp at hk
      ·rename_i h1;split at hk
       ·rename_i h2;exact⟨by simpa using h1,h2,by simpa using hk⟩
       ·split at hk<;>simp at hk
     obtain⟨N,v,h1,h2⟩:=Lc l hf' ⟨u,r.deep+1,r.size+1,false⟩ [] k hb.2.2 rfl (by simp only;omega) (by simp only;omega);refine⟨N+1,v,h1,fun n hN=> ?_⟩
     cases n with
     |zero=>omega
     |succ n=>
      rw[jR,e]
      simp only
      rw[if_neg (by omega),if_neg (by rw[hb.1];decide),if_neg (by rw[hb.2.1];simp;omega),h2 n (by omega)];simp only[List.nil_append,Nat.add_sub_cancel,eD,ji];congr 2;omega
   |cons c v=>
    rw[qz] at hk
    have hf':validAtom (c::v)=true/\l=[]:=by
     rw[pK,if_neg (by simp)] at hf;simp only[Bool.and_eq_true,decide_eq_true_eq,List.length_eq_zero_iff] at hf;exact hf
    obtain⟨-,rfl⟩:=hf'
    cases e:fH r.t with
    |nil=>rw[lex_nil e] at hk;simp at hk
    |cons b u=>
     rw[qp e] at hk;split at hk
     ·rename_i h1;simp only[List.cons_append,List.nil_append,List.cons.injEq,Tok.wd.injEq] at hk;refine⟨1,u.dropWhile dD,hk.2,fun n hN=> ?_⟩
      cases n with
      |zero=>omega
      |succ n=>
       have hz:ji (.mk (c::v) [])=1:=rfl;rw[hz] at hn;rw[jR,e]
       simp only
       rw[if_neg (by omega),if_pos h1,hk.1.1,hk.1.2,hz];rfl
     ·split at hk
      ·simp at hk
      ·split at hk<;>simp at hk
theorem Lc:∀(l:List au),oC l=true->∀(r:RS)(acc:List au)(k:List Tok),lex r.t=qN l++ .cl::k->r.bad=false->r.size+jJ l<=900->r.deep+lT l<=14->
 ∃(N:Nat) (u:List UInt8),lex u=k/\∀n,N<=n->nN n r acc=(eD (acc++l),⟨u,r.deep-1,r.size+jJ l,false⟩)
 |[]=>fun hf r acc k hk hb hn hd=>by
  rw[qN,List.nil_append] at hk
  cases e:fH r.t with
  |nil=>rw[lex_nil e] at hk;simp at hk
  |cons b u=>
   rw[qp e] at hk
   have hb':b=41/\lex u=k:=by
    split at hk
    ·simp at hk
    ·split at hk
     ·simp at hk
     ·split at hk
      ·rename_i h3;exact⟨h3,by simpa using hk⟩
      ·simp at hk
   refine⟨1,u,hb'.2,fun n hN=> ?_⟩
   cases n with
   |zero=>omega
   |succ n=>
    rw[nN,if_neg (by rw[hb];decide),if_pos (by rw[e,hb'.1];rfl),e,List.append_nil];rfl
 |x::l=>fun hf r acc k hk hb hn hd=>by
  rw[qN,List.append_assoc] at hk;rw[oC,Bool.and_eq_true] at hf;rw[jJ] at hn;rw[lT] at hd;obtain⟨N,u,h1,h2⟩:=Oi x hf.1 ⟨fH r.t,r.deep,r.size,false⟩ _ (by rw[Eu];exact hk) (by simp only;omega) (by simp only;omega);obtain⟨M,v,h3,h4⟩:=Lc l hf.2 ⟨u,r.deep,r.size+ji x,false⟩ (acc++[x]) k h1 rfl (by simp only;omega) (by simp only;omega);refine⟨N+M+1,v,h3,fun n hN=> ?_⟩
  cases n with
  |zero=>omega
  |succ n=>
   have hne:(fH r.t).head? ≠some 41:=fun hq=>by
    cases e:fH r.t with
    |nil=>rw[e] at hq;cases hq
    |cons b w=>
     rw[e] at hq
     have amB:b=41:=by simpa using hq
     rw[qp e,amB] at hk
     cases x with|mk a l'=> ?_
     cases a with
     |nil=>rw[qz] at hk;revert hk;simp[show dD 41=false from by decide]
     |cons c v=>rw[qz] at hk;revert hk;simp[show dD 41=false from by decide]
   rw[nN,if_neg (by rw[hb];decide),if_neg hne,h2 n (by omega)]
   simp only
   rw[h4 n (by omega),List.append_assoc,jJ];simp only[List.cons_append,List.nil_append];congr 2;omega
end
def Gl:Nat->List UInt8->List (List au)->Nat->Option (List (List au))
 |0,_,_,_=>none
 |_+1,[],rows,_=>some rows
 |n+1,b::u,rows,c=>if qM b=true then Gl n u rows c else
  if b=40 then(if 15<rows.length+1\/1800<c+1 then none else Gl n u ([]::rows) (c+1)) else
  if b=41 then(match rows with
   |x::y::z=>if 1800<c+1 then none else Gl n u ((y++[eD x])::z) (c+1)
   |_=>none) else
  if dD b=true then(match rows with
   |x::z=>if 1800<c+1 then none else Gl n (u.dropWhile dD) ((x++[bR (b::u.takeWhile dD)])::z) (c+1)
   |[]=>none) else none
def runT:List Tok->List (List au)->Nat->Option (List (List au))
 |[],rows,_=>some rows
 | .op::k,rows,c=>if 15<rows.length+1\/1800<c+1 then none else runT k ([]::rows) (c+1)
 | .cl::k,x::y::z,c=>if 1800<c+1 then none else runT k ((y++[eD x])::z) (c+1)
 | .wd b u::k,x::z,c=>if 1800<c+1 then none else runT k ((x++[bR (b::u)])::z) (c+1)
 |_,_,_=>none
theorem Bj:∀(n:Nat)(l:List UInt8)(rows:List (List au))(c:Nat),l.length<n->Gl n l rows c=runT (lex l) rows c
 |0,l,rows,c,h=>by omega
 |n+1,[],rows,c,h=>by rw[Gl,lex_nil rfl];rfl
 |n+1,b::u,rows,c,h=>by
  rw[List.length_cons] at h;have hd:(u.dropWhile dD).length<=u.length:=(List.dropWhile_suffix dD).length_le;rw[Gl.eq_def]
  simp only
  by_cases hb:qM b=true
  ·rw[if_pos hb,Bj n u rows c (by omega),<-Eu (b::u),La hb,Eu]
  ·rw[if_neg hb]
   have hb':qM b=false:=by simpa using hb
   rw[qp (JB hb')];by_cases h40:b=40
   ·subst h40;rw[if_pos rfl,if_neg (show ¬dD 40=true by decide),if_pos rfl,runT,Bj n u _ _ (by omega)]
   ·rw[if_neg h40];by_cases h41:b=41
    ·subst h41;rw[if_pos rfl,if_neg (show ¬dD 41=true by decide),if_neg (show ¬(41:UInt8)=40 by decide),if_pos rfl]
     match rows with
     |[]=>simp[runT]
     |[x]=>simp[runT]
     |x::y::z=>simp only[runT];rw[Bj n u _ _ (by omega)]
    ·rw[if_neg h41];by_cases ha:dD b=true
     ·rw[if_pos ha,if_pos ha]
      match rows with
      |[]=>simp[runT]
      |x::z=>simp only[runT];rw[Bj n _ _ _ (by omega)]
     ·rw[if_neg ha,if_neg ha,if_neg h40,if_neg h41]
      cases rows with
      |nil=>simp[runT]
      |cons x z=>simp[runT]
mutual
theorem Oj:∀(x:au),pK x=true->∀(k:List Tok)(r:List au)(z:List (List au))(c:Nat),z.length+1+lZ x<=15->c+2*ji x<=1800->
 ∃d,d<=c+2*ji x/\runT (qz x++k) (r::z) c=runT k ((r++[x])::z) d
 | .mk [] l=>fun hf k r z c hd hc=>by
   rw[pK,if_pos rfl] at hf;rw[lZ,if_pos rfl] at hd;rw[ji] at hc;obtain⟨d,h1,h2⟩:=Ld l hf (.cl::k) [] (r::z) (c+1) (by rw[List.length_cons];omega) (by omega);refine⟨d+1,by rw[ji];omega,?_⟩;rw[qz,List.cons_append,List.cons_append,List.append_assoc];simp only[List.cons_append,List.nil_append];rw[runT,if_neg (by rw[List.length_cons];omega),h2,runT,if_neg (by omega)];rfl
 | .mk (b::u) l=>fun hf k r z c hd hc=>by
   rw[pK,if_neg (by simp)] at hf;simp only[Bool.and_eq_true,decide_eq_true_eq,List.length_eq_zero_iff] at hf;obtain⟨-,rfl⟩:=hf;have hz:ji (.mk (b::u) [])=1:=rfl;rw[hz] at hc ⊢;refine⟨c+1,by omega,?_⟩;rw[qz,List.cons_append,List.nil_append,runT,if_neg (by omega)];rfl
theorem Ld:∀(l:List au),oC l=true->∀(k:List Tok)(r:List au)(z:List (List au))(c:Nat),z.length+1+lT l<=15->c+2*jJ l<=1800->
 ∃d,d<=c+2*jJ l/\runT (qN l++k) (r::z) c=runT k ((r++l)::z) d
 |[]=>fun hf k r z c hd hc=>⟨c,by omega,by rw[qN,List.append_nil];rfl⟩
 |x::l=>fun hf k r z c hd hc=>by
  rw[oC,Bool.and_eq_true] at hf;rw[lT] at hd;rw[jJ] at hc;obtain⟨d,h1,h2⟩:=Oj x hf.1 (qN l++k) r z c (by omega) (by omega);obtain⟨e,h3,h4⟩:=Ld l hf.2 k (r++[x]) z d (by omega) (by omega);refine⟨e,by rw[jJ];omega,?_⟩;rw[qN,List.append_assoc,h2,h4,List.append_assoc];rfl
end
def Denotes(s:List UInt8)(x:au):Prop:=iU x=true/\lex s=qz x
theorem Gm{x:au}(h:iU x=true):pK x=true/\lZ x<=14/\ji x<=900:=by
 unfold iU at h;simpa using h
theorem IU{s:List UInt8}{x:au}(h:Denotes s x):Gl (s.length+1) s [[]] 0=some [[x]]:=by
 obtain⟨h1,h2,h3⟩:=Gm h.1;obtain⟨d,_,h4⟩:=Oj x h1 [] [] [] 0 (by simp;omega) (by omega);rw[Bj _ _ _ _ (Nat.lt_succ_self _),h.2,<-List.append_nil (qz x),h4];rfl
theorem Ug{s:List UInt8}{x y:au}(h:Denotes s x)(h':Denotes s y):x=y:=by
 have:=(IU h).symm.trans (IU h');simpa using this
open Classical in
noncomputable def mq(s:List UInt8):Bool:=dec (∃x,Denotes s x)
open Classical in
noncomputable def kI(s:List UInt8):au:=if h:∃x,Denotes s x then h.choose else dz
theorem Gn{s:List UInt8}{x:au}(h:Denotes s x):mq s=true/\kI s=x:=by
 have h':∃x,Denotes s x:=⟨x,h⟩;refine⟨dH h',?_⟩;unfold kI;rw[dif_pos h'];exact Ug h'.choose_spec h
theorem adW{s:List UInt8}(h:∀x,¬Denotes s x):mq s=false/\kI s=dz:=by
 have h':¬∃x,Denotes s x:=fun⟨x,hx⟩=>h x hx;refine⟨bM h',?_⟩;unfold kI;rw[dif_neg h']
theorem Uh{s:List UInt8}(h:mq s=true):iU (kI s)=true:=by
 obtain⟨x,hx⟩:=gP h;rw[(Gn hx).2];exact hx.1
def Le(s:List UInt8):Nat:=2*s.length+2
theorem RD(s:List UInt8):∃n,Le s<=n/\dec ((jR n ⟨s,0,0,false⟩).2.bad=false/\fH (jR n ⟨s,0,0,false⟩).2.t=[]/\iU (jR n ⟨s,0,0,false⟩).1=true)=mq s/\(mq s=true->(jR n ⟨s,0,0,false⟩).1=kI s):=by
 by_cases h:∃x,Denotes s x
 ·obtain⟨x,hx⟩:=h;obtain⟨h1,h2,h3⟩:=Gm hx.1;obtain⟨N,u,hu,hN⟩:=Oi x h1 ⟨s,0,0,false⟩ [] (by rw[List.append_nil];exact hx.2) (by simp only;omega) (by simp only;omega);refine⟨N+Le s,by omega,?_,fun _=> ?_⟩
  ·rw[hN _ (by omega),(Gn hx).1];exact dH ⟨rfl,agL hu,hx.1⟩
  ·rw[hN _ (by omega),(Gn hx).2]
 ·have hno:=adW (s:=s) fun x hx=>h ⟨x,hx⟩;refine⟨Le s,Nat.le_refl _,?_,fun e=>by rw[hno.1] at e;cases e⟩;rw[hno.1];refine bM fun hq=>h ⟨_,hq.2.2,?_⟩;have:=(Lb (Le s)).1 ⟨s,0,0,false⟩ hq.1;simp only at this;rw[this,lex_nil hq.2.1,List.append_nil]
def fP(s:List UInt8)(r:RS):List C:=[.d (.s s),.d (.i .i64 (s.length-r.t.length:Nat)),.d (.i .i64 r.deep),.d (.i .i64 r.size),.d (.b r.bad)]
theorem Al{s u:List UInt8}{b:UInt8}(h:b::u <:+ s):s.length-(b::u).length<s.length/\s.getD (s.length-(b::u).length) 0=b/\s.length-(b::u).length+1=s.length-u.length:=by
 obtain⟨p,rfl⟩:=h
 have e:(p++b::u).length-(b::u).length=p.length:=by simp
 rw[e];refine⟨by simp,by simp[List.getD],by simp;omega⟩
theorem adX{s t a c:List UInt8}(h:t <:+ s)(e:t=a++c):(s.take (s.length-c.length)).drop (s.length-t.length)=a:=by
 obtain⟨p,rfl⟩:=h;subst e
 have e1:(p++(a++c)).length-c.length=(p++a).length:=by simp;omega
 have e2:(p++(a++c)).length-(a++c).length=p.length:=by simp
 rw[e1,e2,<-List.append_assoc,List.take_left,List.drop_left]
theorem Lf{s t:List UInt8}(h:t <:+ s):fH t <:+ s:=(wW t).trans h
theorem cB.aiA{P:Program}{f:FuncId}{args:List V}{t:V}{S S1:Store}(h:cB P f args S fun r S'=>Less r t/\S'=S1):cB P f args S fun r S'=>r=t/\S'=S1:=
 ⟨h.1,fun w σ β vs hS hv=>(h.2 w σ β vs hS hv).mono fun e w' ⟨v,r,S',σ',β',h1,h2,h3,h4,h5,h6,h7⟩=>⟨v,t,S',σ',β',h1,h2,h3,h4,h6 _ _ _ _ _ h5,rfl,h7⟩⟩
theorem Ev:Less (.agg [.d (.s []),.bI []]) dz.v:=gD.less (.cons (.refl _) (.cons (eO _) .nil))
theorem Vd{b c:UInt8}(h:(b.toNat:Int)=c.toNat):b=c:=UInt8.toNat_inj.1 (by omega)
theorem Gp(s:List UInt8)(hs:s.length<=1073741824)(r:RS)(ht:r.t <:+ s)(l j:Nat)(S:Store)(hk:bA S (l,j)=some (.box (fP s r))):
 cB prog 217 [.c (.ptr (l,j) 0)] S (fun v S'=>v=.eu []/\S'=bq S (l,j) (.box (fP s ⟨fH r.t,r.deep,r.size,r.bad⟩))):=by
 have g:∀x:Ab.Obj,bA (bq S (l,j) x) (l,j)=some x:=fun x=>dw _ _ _ _ hk;refine zcx [] func217 ntmps217 ?_;simp -implicitDefEqProofs (disch:=omega) only[go_sem]
 refine bO (ι:=List UInt8) zmx rfl [0] (fun _=>[.c (.ptr (1+l,j) 0)]) (fun t=>[]::bq S (l,j) (.box (fP s ⟨t,r.deep,r.size,r.bad⟩)))
  (fun t=>t <:+ s/\fH t=fH r.t) (fun t=>t.length) r.t rfl (congrArg (fun z=>[]::z) (BO S (l,j) hk).symm) ⟨ht,rfl⟩ ?_
 rintro t ⟨p1,p2⟩;have pl:=p1.length_le;rw[<-p2]
 cases t with
 |nil=>
  have d:decide (((s.length-0:Nat):Int)<s.length)=false:=decide_eq_false (by omega);simp -implicitDefEqProofs (disch:=omega) only[go_sem,g,aJ,ak,ah,fP,d];rfl
 |cons b u=>
  obtain⟨q1,q2,q3⟩:=Al p1;rw[List.length_cons] at q1 q2 q3;simp -implicitDefEqProofs (disch:=omega) only[go_sem,g,aJ,ak,ah,fP];generalize hA:s.length-(u.length+1)=a at q1 q2 q3 ⊢;have d:decide ((a:Int)<s.length)=true:=decide_eq_true (by omega);simp -implicitDefEqProofs (disch:=omega) only[go_sem,d,q2,g,aJ,ak,ah,fP]
  (repeat(with_reducible refine And.intro ?_ ?_;focus first|omega|rfl|assumption|exact⟨_,rfl,rfl⟩|(simp;omega)|(simp;done)))
  have eI:((s.length-u.length:Nat):Int)=(a:Int)+1:=by omega
  have blank:qM b=true->[]::bq S (l,j) (.box [.d (.s s),.d (.i .i64 ((a:Int)+1)),.d (.i .i64 r.deep),.d (.i .i64 r.size),.d (.b r.bad)])=[]::bq S (l,j) (.box (fP s ⟨u,r.deep,r.size,r.bad⟩))/\u <:+ s/\fH u=fH (b::u):=fun hb=>
   ⟨by simp only[fP];rw[eI],(List.suffix_cons b u).trans p1,(La hb).symm⟩
  with_reducible refine aD (fun hb=> ?_) (fun hb=> ?_)<;>have h:=hb<;>(try simp only[wf_preprocess] at h)<;>simp -implicitDefEqProofs (disch:=omega) only[go_sem,hb,g,aJ,ak,ah,fP]<;>(repeat(with_reducible refine And.intro ?_ ?_;focus first|omega|rfl|assumption|exact⟨_,rfl,rfl⟩|(simp;omega)|(simp;done)))
  ·obtain⟨x1,x2⟩:=blank (by unfold qM;simp only[Bool.or_eq_true,decide_eq_true_eq];omega);exact cZ u (by simp) rfl x1 x2
  have hn:=h;simp only[q2]
  with_reducible refine aD (fun hb=> ?_) (fun hb=> ?_)<;>have h:=hb<;>(try simp only[wf_preprocess] at h)<;>simp -implicitDefEqProofs (disch:=omega) only[go_sem,hb,g,aJ,ak,ah,fP]<;>(repeat(with_reducible refine And.intro ?_ ?_;focus first|omega|rfl|assumption|exact⟨_,rfl,rfl⟩|(simp;omega)|(simp;done)))
  ·obtain⟨x1,x2⟩:=blank (by unfold qM;simp only[Bool.or_eq_true,decide_eq_true_eq];omega);exact cZ u (by simp) rfl x1 x2
  ·have hb:qM b=false:=by
    cases e:qM b with
    |false=>rfl
    |true=>unfold qM at e;simp only[Bool.or_eq_true,decide_eq_true_eq] at e;omega
   rw[JB hb,List.length_cons,hA]
theorem XL(s:List UInt8)(hs:s.length<=1048576):∀(n:Nat)(r:RS),r.t <:+ s->r.bad=false->r.deep<=14->r.size<=900->2*r.t.length+1<=n->∀(l j:Nat)(S:Store),bA S (l,j)=some (.box (fP s r))->
 cB prog 216 [.c (.ptr (l,j) 0)] S (fun v S'=>v=(jR n r).1.v/\S'=bq S (l,j) (.box (fP s (jR n r).2))):=by
 intro n
 induction n using Nat.strongRecOn with
 |_ n ih=>
 intro r ht hbad hd hz hn l j S hk
 cases n with
 |zero=>omega
 |succ n=>
 refine cB.aiA ?_;have g:∀x:Ab.Obj,bA (bq S (l,j) x) (l,j)=some x:=fun x=>dw _ _ _ _ hk;have hsk:=Lf ht;have hsl:=za r.t;obtain⟨y,hy⟩:∃y,y=jR (n+1) r:=⟨_,rfl⟩;rw[<-hy];rw[jR] at hy;obtain⟨rt,rd,rz,rb⟩:=r
 simp only at *
 subst hbad;refine pI [219] (rs:=[.cell 2 202]) zmx func216 ntmps216 rfl rfl rfl rfl rfl ?_;simp -implicitDefEqProofs (disch:=omega) only[go_sem];refine bE rfl (Gp s (by omega) _ ht (1+l) j _ (by rw[aJ];exact hk)) ?_;simp -implicitDefEqProofs (disch:=omega) only[go_sem,g,aJ,ak,ah,fP]
 cases e:fH rt with
 |nil=>
  rw[e] at hy;simp only at hy;have d:decide ((s.length:Int)<=((s.length-0:Nat):Int))=true:=decide_eq_true (by omega);simp -implicitDefEqProofs (disch:=omega) only[go_sem,d,g,aJ,ak,ah,fP];refine⟨by rfl,?_⟩;simp -implicitDefEqProofs (disch:=omega) only[go_sem,g,aJ,ak,ah,fP];subst hy;exact⟨Ev,rfl⟩
 |cons b u=>
  rw[e] at hy hsk hsl;simp only at hy;obtain⟨q1,q2,q3⟩:=Al hsk;rw[List.length_cons] at q1 q2 q3 hsl;simp -implicitDefEqProofs (disch:=omega) only[go_sem,g,aJ,ak,ah,fP];generalize hA:s.length-(u.length+1)=a at q1 q2 q3 ⊢;have d:decide ((s.length:Int)<=(a:Int))=false:=decide_eq_false (by omega);simp -implicitDefEqProofs (disch:=omega) only[go_sem,d,g,aJ,ak,ah,fP];refine⟨by rfl,?_⟩;simp -implicitDefEqProofs (disch:=omega) only[go_sem,g,aJ,ak,ah,fP]
  with_reducible refine aD (fun hb=> ?_) (fun hb=> ?_)<;>have h:=hb<;>(try simp only[wf_preprocess] at h)<;>simp -implicitDefEqProofs (disch:=omega) only[go_sem,hb,g,aJ,ak,ah,fP]<;>(repeat(with_reducible refine And.intro ?_ ?_;focus first|omega|rfl|assumption|exact⟨_,rfl,rfl⟩|(simp;omega)|(simp;done)))
  ·rw[if_pos (by omega)] at hy;subst hy;refine⟨Ev,?_⟩;rw[<-hA];simp only[fP];rfl
  have hsz:¬900<rz+1:=by omega
  rw[if_neg hsz] at hy;clear h hb;obtain⟨z,hzd⟩:∃z,z=(b::u).dropWhile dD:=⟨_,rfl⟩
  refine Jy [219] zmx rfl [0,2,3] (ι:=List UInt8) (fun _=>[.c (.ptr (1+l,j) 0),.c (.ptr (0,0) 0),.c (.d (.i .i64 a))])
   (fun t=>[.box [.d (.s []),.bI []]]::bq S (l,j) (.box (fP s ⟨t,rd,rz+1,false⟩)))
   (fun t=>t <:+ b::u/\t.dropWhile dD=z) (fun t=>t.length) (b::u) rfl (by rw[<-hA];simp only[fP];rfl) ⟨List.suffix_refl _,hzd.symm⟩ ?_
  rintro t ⟨p1,p2⟩;have p3:=p1.trans hsk;have p4:=p3.length_le
  have ex:(t=[]\/∃c v,t=c::v/\dD c=false)\/∃c v,t=c::v/\dD c=true:=by
   cases t with
   |nil=>exact .inl (.inl rfl)
   |cons c v=>cases hc:dD c with
    |false=>exact .inl (.inr ⟨c,v,rfl,hc⟩)
    |true=>exact .inr ⟨c,v,rfl,hc⟩
  rcases ex with ex|⟨c,v,rfl,hc⟩
  rotate_left
  ·obtain⟨k1,k2,k3⟩:=Al p3;rw[List.length_cons] at k1 k2 k3;simp -implicitDefEqProofs (disch:=omega) only[go_sem,g,aJ,ak,ah,fP];generalize hB:s.length-(v.length+1)=m at k1 k2 k3 ⊢;have d1:decide ((m:Int)<s.length)=true:=decide_eq_true (by omega);simp -implicitDefEqProofs (disch:=omega) only[go_sem,d1,g,aJ,ak,ah,fP]
   (repeat(with_reducible refine And.intro ?_ ?_;focus first|omega|rfl|assumption|exact⟨_,rfl,rfl⟩|(simp;omega)|(simp;done)))
   rw[k2];refine aB (Gg c) ?_;rw[hc];simp -implicitDefEqProofs (disch:=omega) only[go_sem,g,aJ,ak,ah,fP];refine⟨by rfl,?_⟩;simp -implicitDefEqProofs (disch:=omega) only[go_sem,g,aJ,ak,ah,fP];refine cZ v (by simp) rfl ?_ ⟨(List.suffix_cons c v).trans p1,?_⟩
   ·have eI:((s.length-v.length:Nat):Int)=(m:Int)+1:=by omega
    simp only[fP];rw[eI]
    first|done|rfl
   ·rw[<-p2,List.dropWhile_cons,if_pos hc]
  have hzt:z=t:=by
   rw[<-p2];rcases ex with rfl|⟨c,v,rfl,hc⟩
   ·rfl
   ·rw[List.dropWhile_cons,if_neg (by rw[hc];decide)]
  subst hzt;obtain⟨m,hm⟩:∃m,m=s.length-z.length:=⟨_,rfl⟩
  have hyes:dD b=true->(s.take m).drop a=b::u.takeWhile dD/\a<m/\m=s.length-(u.dropWhile dD).length:=fun hab=>by
   have e1:z=u.dropWhile dD:=by rw[hzd,List.dropWhile_cons,if_pos hab]
   have e2:(u.dropWhile dD).length<=u.length:=(List.dropWhile_suffix dD).length_le;have e3:=adX (a:=b::u.takeWhile dD) (c:=z) hsk (by rw[e1,List.cons_append,List.takeWhile_append_dropWhile]);rw[<-hm,List.length_cons,hA] at e3;have e4:=hsk.length_le;rw[List.length_cons] at e4;rw[e1] at hm;exact⟨e3,by omega,hm⟩
  have hno:dD b=false->m=a:=fun hab=>by
   have e1:z=b::u:=by rw[hzd,List.dropWhile_cons,if_neg (by rw[hab];decide)]
   rw[hm,e1,List.length_cons,hA]
  clear p1 p2 p4 hzd;rcases ex with rfl|⟨c,v,rfl,hc⟩;rw[List.length_nil] at hm;have d1:decide ((m:Int)<s.length)=false:=decide_eq_false (by omega);simp -implicitDefEqProofs (disch:=omega) only[go_sem,g,aJ,ak,ah,fP];rw[<-hm];simp -implicitDefEqProofs (disch:=omega) only[go_sem,d1,g,aJ,ak,ah,fP];refine⟨by rfl,?_⟩;simp -implicitDefEqProofs (disch:=omega) only[go_sem,g,aJ,ak,ah,fP]
  rotate_left
  obtain⟨k1,k2,k3⟩:=Al p3;rw[List.length_cons] at k1 k2 k3 hm;simp -implicitDefEqProofs (disch:=omega) only[go_sem,g,aJ,ak,ah,fP];rw[<-hm] at k1 k2 k3 ⊢;have d1:decide ((m:Int)<s.length)=true:=decide_eq_true (by omega);simp -implicitDefEqProofs (disch:=omega) only[go_sem,d1,g,aJ,ak,ah,fP]
  (repeat(with_reducible refine And.intro ?_ ?_;focus first|omega|rfl|assumption|exact⟨_,rfl,rfl⟩|(simp;omega)|(simp;done)))
  rw[k2];refine aB (Gg c) ?_;rw[hc];simp -implicitDefEqProofs (disch:=omega) only[go_sem,g,aJ,ak,ah,fP];refine⟨by rfl,?_⟩;simp -implicitDefEqProofs (disch:=omega) only[go_sem,g,aJ,ak,ah,fP]
  all_goals clear p3 hm d1
  all_goals
   cases hab:dD b with
   |true=>
    obtain⟨r1,r2,r3⟩:=hyes hab;have d2:decide ((a:Int)<(m:Int))=true:=decide_eq_true (by omega);rw[if_pos hab] at hy;simp -implicitDefEqProofs (disch:=omega) only[go_sem,d2,g,aJ,ak,ah,fP]
    (repeat(with_reducible refine And.intro ?_ ?_;focus first|omega|rfl|assumption|exact⟨_,rfl,rfl⟩|(simp;omega)|(simp;done)))
    refine⟨by rfl,?_⟩;simp -implicitDefEqProofs (disch:=omega) only[go_sem,g,aJ,ak,ah,fP];rw[r1];subst hy;refine⟨gD.less (.cons (.refl _) (.cons (eO _) .nil)),?_⟩;simp only[fP,<-r3]
    first|done|rfl
   |false=>
    obtain rfl:=hno hab;have d2:decide ((m:Int)<(m:Int))=false:=decide_eq_false (by omega);rw[if_neg (by rw[hab];decide)] at hy;clear hyes hno;simp -implicitDefEqProofs (disch:=omega) only[go_sem,d2,g,aJ,ak,ah,fP]
    (repeat(with_reducible refine And.intro ?_ ?_;focus first|omega|rfl|assumption|exact⟨_,rfl,rfl⟩|(simp;omega)|(simp;done)))
    simp only[q2]
    have M8:b≠40\/rd=14->Less (.agg [.d (.s []),.bI []]) y.1.v/\bq S (l,j) (.box [.d (.s s),.d (.i .i64 m),.d (.i .i64 rd),.d (.i .i64 (rz+1:Nat)),.d (.b true)])=bq S (l,j) (.box (fP s y.2)):=fun hq=>by
     rw[if_pos hq] at hy;subst hy;refine⟨Ev,?_⟩;rw[<-hA];simp only[fP];rfl
    with_reducible refine aD (fun hb=> ?_) (fun hb=> ?_)<;>have h:=hb<;>(try simp only[wf_preprocess] at h)<;>simp -implicitDefEqProofs (disch:=omega) only[go_sem,hb,g,aJ,ak,ah,fP]<;>(repeat(with_reducible refine And.intro ?_ ?_;focus first|omega|rfl|assumption|exact⟨_,rfl,rfl⟩|(simp;omega)|(simp;done)))
    ·refine⟨by rfl,?_⟩;simp -implicitDefEqProofs (disch:=omega) only[go_sem,g,aJ,ak,ah,fP];exact M8 (.inl fun hq=>h (by rw[hq];rfl))
    have amC:b=40:=Vd h;refine⟨by rfl,?_⟩;simp -implicitDefEqProofs (disch:=omega) only[go_sem,g,aJ,ak,ah,fP]
    with_reducible refine aD (fun hb=> ?_) (fun hb=> ?_)<;>have h:=hb<;>(try simp only[wf_preprocess] at h)<;>simp -implicitDefEqProofs (disch:=omega) only[go_sem,hb,g,aJ,ak,ah,fP]<;>(repeat(with_reducible refine And.intro ?_ ?_;focus first|omega|rfl|assumption|exact⟨_,rfl,rfl⟩|(simp;omega)|(simp;done)))
    ·exact M8 (.inr (by omega))
    have aiC:¬(b≠40\/rd=14):=by rintro(h1|h1);exact h1 amC;omega
    rw[if_neg aiC] at hy;clear M8 d2 d aiC hab;refine jD 1 1 2 _ rfl rfl ?_
    refine Jy [219] zmx rfl [0,2,4] (ι:=Nat×RS×List au) (fun _=>[.c (.ptr (1+l,j) 0),.c (.ptr (0,0) 0),.c (.ptr (0,1) 0)])
     (fun x=>[.box [.d (.s []),.bI []],.box [.d (.s []),.bS (0,2) (x.2.2.map au.enc)],.tok 2 (x.2.2.map au.enc)]::bq S (l,j) (.box (fP s x.2.1)))
     (fun x=>nN x.1 x.2.1 x.2.2=y/\x.2.1.t <:+ s/\x.2.1.deep<=14/\x.2.1.size<=901/\(x.2.1.bad=false->1<=x.2.1.deep/\x.2.1.size<=900)/\x.2.2.length<=x.2.1.size/\(x.2.1.bad=true/\1<=x.1\/2*x.2.1.t.length+2<=x.1)/\x.1<=n) (fun x=>x.1)
     (n,⟨u,rd+1,rz+1,false⟩,[]) rfl ?_ ⟨hy.symm,(List.suffix_cons b u).trans hsk,by simp only;omega,by simp only;omega,fun _=>by simp only;omega,by simp only[List.length_nil];omega,.inr (by simp only;omega),Nat.le_refl _⟩ ?_
    ·have eI:((s.length-u.length:Nat):Int)=(m:Int)+1:=by omega
     simp only[fP,eI];rfl
    rintro⟨f,⟨t,dp,zz,bd⟩,acc⟩ ⟨p1,p2,p3,p4,p5,p6,p7,p8⟩;simp only at p1 p2 p3 p4 p5 p6 p7 p8;simp -implicitDefEqProofs (disch:=omega) only[go_sem,g,aJ,ak,ah,fP]
    cases bd with
    |true=>
     simp -implicitDefEqProofs (disch:=omega) only[go_sem,g,aJ,ak,ah,fP]
     cases f with
     |zero=>omega
     |succ f=>
      rw[nN,if_pos rfl] at p1;subst p1;exact⟨jE _,rfl⟩
    |false=>
     have p5:=p5 rfl;have p7:=p7.resolve_left fun h=>Bool.noConfusion h.1;simp -implicitDefEqProofs (disch:=omega) only[go_sem,g,aJ,ak,ah,fP];refine bE rfl (Gp s (by omega) ⟨t,dp,zz,false⟩ p2 (1+l) j _ (by rw[aJ];exact g _)) ?_;simp -implicitDefEqProofs (disch:=omega) only[go_sem,g,aJ,ak,ah,fP]
     cases f with
     |zero=>omega
     |succ f=>
     rw[nN,if_neg Bool.false_ne_true] at p1;have k1:=Lf p2;have k0:=k1;have k2:=za t;have k3:=k2;have k4:=k1.length_le;obtain⟨q,hq⟩:∃q,q=jR f ⟨fH t,dp,zz,false⟩:=⟨_,rfl⟩;have hcall:=ih f (by omega) ⟨fH t,dp,zz,false⟩ k1 rfl p3 p5.2 (by simp only;omega);have aiD:=(M7 f).1 ⟨fH t,dp,zz,false⟩ p3 p5.2;simp only at p1;rw[<-hq] at hcall aiD p1;obtain⟨o1,o2,o3,o4,o5,o6⟩:=aiD;simp only at o1 o2 o4 o5 o6;have o7:=o1.length_le
     have ek:(fH t=[]\/∃c v,fH t=c::v/\c≠41)\/∃v,fH t=41::v:=by
      cases fH t with
      |nil=>exact .inl (.inl rfl)
      |cons c v=>by_cases hc:c=41
                 ·subst hc;exact .inr ⟨v,rfl⟩
                 ·exact .inl (.inr ⟨c,v,rfl,hc⟩)
     rcases ek with ek|⟨v,e2⟩
     rotate_left
     ·rw[e2] at k1 k2 p1 ⊢;obtain⟨w1,w2,w3⟩:=Al k1;rw[List.length_cons] at w1 w2 w3;have d1:decide (((s.length-(v.length+1):Nat):Int)<s.length)=true:=decide_eq_true (by omega);rw[if_pos (show(41::v).head? =some 41 from rfl)] at p1;simp -implicitDefEqProofs (disch:=omega) only[go_sem,d1,g,aJ,ak,ah,fP]
      (repeat(with_reducible refine And.intro ?_ ?_;focus first|omega|rfl|assumption|exact⟨_,rfl,rfl⟩|(simp;omega)|(simp;done)))
      rw[w2];refine⟨by rfl,?_⟩
      have d2:decide ((((41:UInt8).toNat:Nat):Int)=41)=true:=by decide
      simp -implicitDefEqProofs (disch:=omega) only[go_sem,d2,g,aJ,ak,ah,fP];subst p1
      have e3:((s.length-v.length:Nat):Int)=((s.length-(v.length+1):Nat):Int)+1:=by omega
      have e4:((dp-1:Nat):Int)=(dp:Int)-1:=by omega
      refine⟨jE _,?_⟩;simp only[List.tail_cons,e3,e4]
     have hne:(fH t).head? ≠some 41:=by
      rcases ek with e2|⟨c,v,e2,hc⟩
      ·rw[e2];simp
      ·rw[e2];simpa using hc
     rw[if_neg hne] at p1;rcases ek with e2|⟨c,v,e2,hc⟩;have d1:decide (((s.length-0:Nat):Int)<s.length)=false:=decide_eq_false (by omega);rw[e2];simp -implicitDefEqProofs (disch:=omega) only[go_sem,d1,g,aJ,ak,ah,fP];refine⟨by rfl,?_⟩;simp -implicitDefEqProofs (disch:=omega) only[go_sem,g,aJ,ak,ah,fP]
     rotate_left
     rw[e2] at k1 k2 ⊢;obtain⟨w1,w2,w3⟩:=Al k1;rw[List.length_cons] at w1 w2 w3;have d1:decide (((s.length-(v.length+1):Nat):Int)<s.length)=true:=decide_eq_true (by omega);simp -implicitDefEqProofs (disch:=omega) only[go_sem,d1,g,aJ,ak,ah,fP]
     (repeat(with_reducible refine And.intro ?_ ?_;focus first|omega|rfl|assumption|exact⟨_,rfl,rfl⟩|(simp;omega)|(simp;done)))
     simp only[w2];refine⟨by rfl,?_⟩;have d2:decide ((c.toNat:Int)=41)=false:=decide_eq_false fun hq=>hc (Vd (c:=41) hq);simp -implicitDefEqProofs (disch:=omega) only[go_sem,d2,g,aJ,ak,ah,fP]
     all_goals
      refine bE rfl (hcall (1+l) j _ (by rw[aJ,e2];exact g _)) ?_;simp -implicitDefEqProofs (disch:=omega) only[go_sem,g,aJ,ak,ah,fP]
      (repeat(with_reducible refine And.intro ?_ ?_;focus first|omega|rfl|assumption|exact⟨_,rfl,rfl⟩|(simp;omega)|(simp;done)))
      refine⟨by cases l<;>rfl,?_⟩;simp -implicitDefEqProofs (disch:=omega) only[go_sem,g,aJ,ak,ah,fP];refine cZ (f,q.2,acc++[q.1]) (by simp) rfl ?_ ⟨p1,o1.trans k0,o3,o4.2,fun hq=>⟨by simp only;rw[o2 hq];exact p5.1,(o6 hq).2⟩,?_,?_,by simp only;omega⟩
      ·simp only[List.map_append,List.map_cons,List.map_nil,au.aj,fP]
      ·simp only[List.length_append,List.length_cons,List.length_nil];omega
      ·cases hqb:q.2.bad with
       |true=>exact .inl ⟨rfl,by simp only;omega⟩
       |false=>
        have:=(o6 hqb).1;exact .inr (by simp only;omega)
theorem Pg(s:List UInt8)(hs:s.length<=1048576):bg prog 191 [.c (.d (.s s))] (.eu [(true,(kI s).enc.map .d),(false,[.d (.b (mq s))])]):=bg.of_le fun S=>by
 obtain⟨n,hn,hok,hx⟩:=RD s;obtain⟨q,hq⟩:∃q,q=jR n ⟨s,0,0,false⟩:=⟨_,rfl⟩;have hr:=(M7 n).1 ⟨s,0,0,false⟩ (by simp only;omega) (by simp only;omega);have hc:=XL s hs n ⟨s,0,0,false⟩ (List.suffix_refl _) rfl (by simp only;omega) (by simp only;omega) (by unfold Le at hn;simp only;omega);rw[<-hq] at hok hx hr hc;clear hq hn;obtain⟨o1,o2,o3,o4,o5,o6⟩:=hr;simp only at o1 o2 o4 o5 o6
 have jK:mq s=false->Less (.eu [(true,[.d (.s []),.bI []]),(false,[.d (.b false)])]) (.eu [(true,[.d (.s (kI s).bK),.d (.sl ((kI s).aA.map au.enc))]),(false,[.d (.b (mq s))])]):=fun e=>by
  have e2:kI s=dz:=by
   unfold kI;rw[dif_neg (kF e)]
  rw[e,e2];exact(jZ.cons (.cons (.refl _) (.cons (eO _) .nil)) (.refl _)).less
 have hsl:=za q.2.t
 have hsz:q.1.sz<=67108864:=by omega
 refine zcx [.cell 2 202,.tmp 3] func191 ntmps191 ?_;simp -implicitDefEqProofs (disch:=omega) only[go_sem];refine bE rfl (hc 0 1 _ (by simp[bA,fP])) ?_;simp -implicitDefEqProofs (disch:=omega) only[go_sem,fP];refine bE rfl (Gp s (by omega) q.2 o1 0 1 _ rfl) ?_;simp -implicitDefEqProofs (disch:=omega) only[go_sem,fP]
 cases hqb:q.2.bad with
 |true=>
  simp -implicitDefEqProofs (disch:=omega) only[go_sem];exact jK (by rw[<-hok];exact bM fun h=>by rw[hqb] at h;cases h.1)
 |false=>
  simp -implicitDefEqProofs (disch:=omega) only[go_sem]
  with_reducible refine aD (fun hb=> ?_) (fun hb=> ?_)<;>have h:=hb<;>(try simp only[wf_preprocess] at h)<;>simp -implicitDefEqProofs (disch:=omega) only[go_sem,hb]<;>(repeat(with_reducible refine And.intro ?_ ?_;focus first|omega|rfl|assumption|exact⟨_,rfl,rfl⟩|(simp;omega)|(simp;done)))
  ·refine jK ?_;rw[<-hok];refine bM fun hq=> ?_;rw[hq.2.1] at h;exact h (by simp)
  have hnil:fH q.2.t=[]:=List.eq_nil_of_length_eq_zero (by have:=o1.length_le;omega);refine aB (lU q.1 hsz) ?_;simp -implicitDefEqProofs (disch:=omega) only[go_sem]
  with_reducible refine aD (fun hb=> ?_) (fun hb=> ?_)<;>have h:=hb<;>(try simp only[wf_preprocess] at h)<;>simp -implicitDefEqProofs (disch:=omega) only[go_sem,hb]<;>(repeat(with_reducible refine And.intro ?_ ?_;focus first|omega|rfl|assumption|exact⟨_,rfl,rfl⟩|(simp;omega)|(simp;done)))
  ·refine jK ?_;rw[<-hok];refine bM fun hq=> ?_;rw[hq.2.2] at h;cases h
  ·have hy:mq s=true:=by rw[<-hok];exact dH ⟨hqb,hnil,h⟩
   rw[hy,<-hx hy];exact jE _
end Go.Ab