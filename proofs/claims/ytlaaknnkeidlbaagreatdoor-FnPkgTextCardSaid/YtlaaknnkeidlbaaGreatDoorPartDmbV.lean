/-
  SEVERAL TEXTS IN ONE (merged by program): contracts and models, each with its own heading.
-/
import Derived.Test.YtlaaknnkeidlbaaGreatDoorPartDmbJ
set_option linter.unusedSimpArgs false
set_option linter.unusedVariables false
namespace Go.Ab
def pU(b:UInt8):Bool:=decide (b.toNat=32)||decide (b.toNat=10)
def qX(l:List UInt8):List UInt8:=l.dropWhile pU
theorem Xn(l:List UInt8):qX l <:+ l:=List.dropWhile_suffix _
theorem TH(l:List UInt8):(qX l).length<=l.length:=(Xn l).length_le
theorem acJ{l u:List UInt8}{b:UInt8}(h:qX l=b::u):pU b=false:=by
 induction l with
 |nil=>cases h
 |cons a l ih=>
  unfold qX at h ih;rw[List.dropWhile_cons] at h;split at h
  ·exact ih h
  ·rename_i h1;injection h with h2 h3;subst h2;simpa using h1
theorem tV{b:UInt8}{u:List UInt8}(h:pU b=false):qX (b::u)=b::u:=by
 unfold qX;rw[List.dropWhile_cons,h];rfl
theorem I8{b:UInt8}{u:List UInt8}(h:pU b=true):qX (b::u)=qX u:=by
 unfold qX;rw[List.dropWhile_cons,h];rfl
theorem KL{b:UInt8}(h:dh b=true):pU b=false/\b≠40/\b≠41:=by
 refine⟨?_,fun e=> ?_,fun e=> ?_⟩
 ·cases hb:pU b with
  |false=>rfl
  |true=>
   unfold pU at hb;unfold dh at h;simp only[Bool.or_eq_true,decide_eq_true_eq] at hb h;rcases hb with hb|hb
   ·obtain rfl:b=32:=UInt8.toNat_inj.1 hb;revert h;decide
   ·obtain rfl:b=10:=UInt8.toNat_inj.1 hb;revert h;decide
 ·subst e;revert h;decide
 ·subst e;revert h;decide
structure RS where
 t:List UInt8
 deep:Nat
 size:Nat
 bad:Bool
mutual
def akk:Nat->RS->ah×RS
 |0,r=>(eY,⟨r.t,r.deep,r.size+1,true⟩)
 |n+1,r=>match qX r.t with
  |[]=>(eY,⟨[],r.deep,r.size+1,true⟩)
  |b::u=>if 900<r.size+1 then(eY,⟨b::u,r.deep,r.size+1,true⟩) else
   if dh b=true then(bN (b::u.takeWhile dh),⟨u.dropWhile dh,r.deep,r.size+1,false⟩) else
   if b≠40\/r.deep=14 then(eY,⟨b::u,r.deep,r.size+1,true⟩) else akl n ⟨u,r.deep+1,r.size+1,false⟩ []
def akl:Nat->RS->List ah->ah×RS
 |0,r,acc=>(bH acc,⟨r.t,r.deep,r.size,true⟩)
 |n+1,r,acc=>if r.bad=true then(bH acc,r) else
  if(qX r.t).head? =some 41 then(bH acc,⟨(qX r.t).tail,r.deep-1,r.size,false⟩) else
  akl n (akk n ⟨qX r.t,r.deep,r.size,false⟩).2 (acc++[(akk n ⟨qX r.t,r.deep,r.size,false⟩).1])
end
structure atD(x:ah)(r r':RS):Prop where
 suf:r'.t <:+ r.t
 deep:r'.bad=false->r'.deep=r.deep
 low:r'.deep<=14
 size:r.size+1<=r'.size/\r'.size<=901
 sz:x.sz+1<=(r.t.length-r'.t.length)+(r'.size-r.size)
 go:r'.bad=false->r'.t.length<r.t.length/\r'.size<=900
structure atE(acc:List ah)(x:ah)(r r':RS):Prop where
 suf:r'.t <:+ r.t
 deep:r'.bad=false->r'.deep=r.deep-1/\r.bad=false/\r'.size<=900
 low:r'.deep<=14
 size:r.size<=r'.size/\r'.size<=901
 sz:∃l,x=bH (acc++l)/\l.length+dA l<=(r.t.length-r'.t.length)+(r'.size-r.size)/\l.length<=r'.size-r.size
inductive Tok where
 |op
 |cl
 |wd (b:UInt8) (u:List UInt8)
 |no
def Gg:Nat->List UInt8->List Tok
 |0,_=>[]
 |n+1,l=>match qX l with
  |[]=>[]
  |b::u=>if dh b=true then .wd b (u.takeWhile dh)::Gg n (u.dropWhile dh) else if b=40 then .op::Gg n u else if b=41 then .cl::Gg n u else [.no]
theorem L6:∀(n m:Nat)(l:List UInt8),l.length<n->l.length<m->Gg n l=Gg m l
 |0,m,l,h,_=>by omega
 |n+1,0,l,_,h=>by omega
 |n+1,m+1,l,h1,h2=>by
  rw[Gg,Gg];have hs:=TH l;split
  ·rfl
  ·rename_i b u e;rw[e,List.length_cons] at hs;have hd:(u.dropWhile dh).length<=u.length:=(List.dropWhile_suffix dh).length_le;rw[L6 n m u (by omega) (by omega),L6 n m (u.dropWhile dh) (by omega) (by omega)]
def lex(l:List UInt8):List Tok:=Gg (l.length+1) l
theorem lex_nil{l:List UInt8}(h:qX l=[]):lex l=[]:=by
 unfold lex;rw[Gg,h]
theorem rV{l u:List UInt8}{b:UInt8}(h:qX l=b::u):lex l=if dh b=true then .wd b (u.takeWhile dh)::lex (u.dropWhile dh) else if b=40 then .op::lex u else if b=41 then .cl::lex u else [.no]:=by
 have hs:=TH l;rw[h,List.length_cons] at hs;have hd:(u.dropWhile dh).length<=u.length:=(List.dropWhile_suffix dh).length_le;unfold lex;rw[Gg,h]
 simp only
 rw[L6 _ (u.length+1) u (by omega) (by omega),L6 _ ((u.dropWhile dh).length+1) (u.dropWhile dh) (by omega) (by omega)]
theorem Bd(l:List UInt8):lex (qX l)=lex l:=by
 cases h:qX l with
 |nil=>rw[lex_nil h];rfl
 |cons b u=>rw[rV h,rV (l:=b::u) (tV (acJ h))]
mutual
def wJ:ah->List Tok
 | .mk [] l=>.op::lQ l++[.cl]
 | .mk (b::u) _=>[.wd b u]
def lQ:List ah->List Tok
 |[]=>[]
 |x::xs=>wJ x++lQ xs
end
theorem CQ:∀a b,lQ (a++b)=lQ a++lQ b
 |[],b=>rfl
 |x::a,b=>by rw[List.cons_append,lQ,lQ,CQ a b,List.append_assoc]
theorem acK(l:List ah):wJ (bH l)=.op::lQ l++[.cl]:=by unfold bH;rw[wJ]
theorem acM(b:UInt8)(u:List UInt8):wJ (bN (b::u))=[.wd b u]:=by unfold bN;rw[wJ]
def yU:Nat->List UInt8->List (List ah)->Nat->Option (List (List ah))
 |0,_,_,_=>none
 |_+1,[],rows,_=>some rows
 |n+1,b::u,rows,c=>if pU b=true then yU n u rows c else
  if b=40 then(if 15<rows.length+1\/1800<c+1 then none else yU n u ([]::rows) (c+1)) else
  if b=41 then(match rows with
   |x::y::z=>if 1800<c+1 then none else yU n u ((y++[bH x])::z) (c+1)
   |_=>none) else
  if dh b=true then(match rows with
   |x::z=>if 1800<c+1 then none else yU n (u.dropWhile dh) ((x++[bN (b::u.takeWhile dh)])::z) (c+1)
   |[]=>none) else none
def runT:List Tok->List (List ah)->Nat->Option (List (List ah))
 |[],rows,_=>some rows
 | .op::k,rows,c=>if 15<rows.length+1\/1800<c+1 then none else runT k ([]::rows) (c+1)
 | .cl::k,x::y::z,c=>if 1800<c+1 then none else runT k ((y++[bH x])::z) (c+1)
 | .wd b u::k,x::z,c=>if 1800<c+1 then none else runT k ((x++[bN (b::u)])::z) (c+1)
 |_,_,_=>none
theorem yV:∀(n:Nat)(l:List UInt8)(rows:List (List ah))(c:Nat),l.length<n->yU n l rows c=runT (lex l) rows c
 |0,l,rows,c,h=>by omega
 |n+1,[],rows,c,h=>by rw[yU,lex_nil rfl];rfl
 |n+1,b::u,rows,c,h=>by
  rw[List.length_cons] at h;have hd:(u.dropWhile dh).length<=u.length:=(List.dropWhile_suffix dh).length_le;rw[yU.eq_def]
  simp only
  by_cases hb:pU b=true
  ·rw[if_pos hb,yV n u rows c (by omega),<-Bd (b::u),I8 hb,Bd]
  ·rw[if_neg hb]
   have hb':pU b=false:=by simpa using hb
   rw[rV (tV hb')];by_cases Qn:b=40
   ·subst Qn;rw[if_pos rfl,if_neg (show ¬dh 40=true by decide),if_pos rfl,runT,yV n u _ _ (by omega)]
   ·rw[if_neg Qn];by_cases TI:b=41
    ·subst TI;rw[if_pos rfl,if_neg (show ¬dh 41=true by decide),if_neg (show ¬(41:UInt8)=40 by decide),if_pos rfl]
     match rows with
     |[]=>simp[runT]
     |[x]=>simp[runT]
     |x::y::z=>simp only[runT];rw[yV n u _ _ (by omega)]
    ·rw[if_neg TI];by_cases ha:dh b=true
     ·rw[if_pos ha,if_pos ha]
      match rows with
      |[]=>simp[runT]
      |x::z=>simp only[runT];rw[yV n _ _ _ (by omega)]
     ·rw[if_neg ha,if_neg ha,if_neg Qn,if_neg TI]
      cases rows with
      |nil=>simp[runT]
      |cons x z=>simp[runT]
def BF:List (List ah)->List Tok
 |[]=>[]
 |x::z=>(if z=[] then [] else BF z++[.op])++lQ x
theorem DK:∀(k:List Tok)(rows:List (List ah))(c:Nat)(out:List (List ah)),rows≠[]->runT k rows c=some out->out≠[]/\BF out=BF rows++k
 |[],rows,c,out,h0,h=>by
  rw[runT] at h;cases h;exact⟨h0,by rw[List.append_nil]⟩
 | .op::k,rows,c,out,h0,h=>by
   rw[runT] at h;split at h
   ·cases h
   ·obtain⟨a,b⟩:=DK k _ _ out (by simp) h;refine⟨a,?_⟩;rw[b,BF,if_neg h0,lQ,List.append_nil,List.append_assoc];rfl
 | .cl::k,[],c,out,h0,h=>absurd rfl h0
 | .cl::k,[x],c,out,h0,h=>by simp[runT] at h
 | .cl::k,x::y::z,c,out,h0,h=>by
   rw[runT] at h;split at h
   ·cases h
   ·obtain⟨a,b⟩:=DK k _ _ out (by simp) h;refine⟨a,?_⟩;rw[b,BF,BF,BF,if_neg (by simp:¬y::z=[]),CQ,lQ,lQ,List.append_nil,acK];simp only[List.append_assoc,List.cons_append,List.nil_append]
 | .wd b u::k,[],c,out,h0,h=>absurd rfl h0
 | .wd b u::k,x::z,c,out,h0,h=>by
   rw[runT] at h;split at h
   ·cases h
   ·obtain⟨a,e⟩:=DK k _ _ out (by simp) h;refine⟨a,?_⟩;rw[e,BF,BF,CQ,lQ,lQ,List.append_nil,acM];simp only[List.append_assoc,List.cons_append,List.nil_append]
 | .no::k,rows,c,out,h0,h=>by simp[runT] at h
mutual
theorem TJ:∀(x:ah),iE x=true->∀(k:List Tok)(r:List ah)(z:List (List ah))(c:Nat),z.length+1+lN x<=15->c+2*jU x<=1800->
 ∃d,d<=c+2*jU x/\runT (wJ x++k) (r::z) c=runT k ((r++[x])::z) d
 | .mk [] l=>fun hf k r z c hd hc=>by
   rw[iE,if_pos rfl] at hf;rw[lN,if_pos rfl] at hd;rw[jU] at hc;obtain⟨d,h1,h2⟩:=Qo l hf (.cl::k) [] (r::z) (c+1) (by rw[List.length_cons];omega) (by omega);refine⟨d+1,by rw[jU];omega,?_⟩;rw[wJ,List.cons_append,List.cons_append,List.append_assoc];simp only[List.cons_append,List.nil_append];rw[runT,if_neg (by rw[List.length_cons];omega),h2,runT,if_neg (by omega)];rfl
 | .mk (b::u) l=>fun hf k r z c hd hc=>by
   rw[iE,if_neg (by simp)] at hf;simp only[Bool.and_eq_true,decide_eq_true_eq,List.length_eq_zero_iff] at hf;obtain⟨-,rfl⟩:=hf;have hz:jU (.mk (b::u) [])=1:=rfl;rw[hz] at hc ⊢;refine⟨c+1,by omega,?_⟩;rw[wJ,List.cons_append,List.nil_append,runT,if_neg (by omega)];rfl
theorem Qo:∀(l:List ah),jv l=true->∀(k:List Tok)(r:List ah)(z:List (List ah))(c:Nat),z.length+1+oH l<=15->c+2*mH l<=1800->
 ∃d,d<=c+2*mH l/\runT (lQ l++k) (r::z) c=runT k ((r++l)::z) d
 |[]=>fun hf k r z c hd hc=>⟨c,by omega,by rw[lQ,List.append_nil];rfl⟩
 |x::l=>fun hf k r z c hd hc=>by
  rw[jv,Bool.and_eq_true] at hf;rw[oH] at hd;rw[mH] at hc;obtain⟨d,h1,h2⟩:=TJ x hf.1 (lQ l++k) r z c (by omega) (by omega);obtain⟨e,h3,h4⟩:=Qo l hf.2 k (r++[x]) z d (by omega) (by omega);refine⟨e,by rw[mH];omega,?_⟩;rw[lQ,List.append_assoc,h2,h4,List.append_assoc];rfl
end
def Denotes(s:List UInt8)(x:ah):Prop:=dV x=true/\lex s=wJ x
theorem KM{x:ah}(h:dV x=true):iE x=true/\lN x<=14/\jU x<=900:=by
 unfold dV at h;simpa using h
theorem BG{s:List UInt8}{x:ah}(h:Denotes s x):yU (s.length+1) s [[]] 0=some [[x]]:=by
 obtain⟨h1,h2,h3⟩:=KM h.1;obtain⟨d,_,h4⟩:=TJ x h1 [] [] [] 0 (by simp;omega) (by omega);rw[yV _ _ _ _ (Nat.lt_succ_self _),h.2,<-List.append_nil (wJ x),h4];rfl
theorem Zd{s:List UInt8}{x y:ah}(h:Denotes s x)(h':Denotes s y):x=y:=by
 have:=(BG h).symm.trans (BG h');simpa using this
theorem MR{s:List UInt8}{x:ah}(h:yU (s.length+1) s [[]] 0=some [[x]])(hv:dV x=true):Denotes s x:=by
 rw[yV _ _ _ _ (Nat.lt_succ_self _)] at h;obtain⟨_,h⟩:=DK _ _ _ _ (by simp) h;simp only[BF,if_true,List.nil_append,lQ,List.append_nil] at h;exact⟨hv,h.symm⟩
open Classical in
noncomputable def qj(s:List UInt8):Bool:=dec (∃x,Denotes s x)
open Classical in
noncomputable def nR(s:List UInt8):ah:=if h:∃x,Denotes s x then h.choose else eY
theorem FL{s:List UInt8}{x:ah}(h:Denotes s x):qj s=true/\nR s=x:=by
 have h':∃x,Denotes s x:=⟨x,h⟩;refine⟨bM h',?_⟩;unfold nR;rw[dif_pos h'];exact Zd h'.choose_spec h
theorem ajg{s:List UInt8}(h:∀x,¬Denotes s x):qj s=false/\nR s=eY:=by
 have h':¬∃x,Denotes s x:=fun⟨x,hx⟩=>h x hx;refine⟨aR h',?_⟩;unfold nR;rw[dif_neg h']
theorem Ze{s:List UInt8}(h:qj s=true):dV (nR s)=true:=by
 obtain⟨x,hx⟩:=gJ h;rw[(FL hx).2];exact hx.1
theorem KN(s:List UInt8):((∃x,yU (s.length+1) s [[]] 0=some [[x]]/\dV x=true)<->qj s=true)/\∀x,yU (s.length+1) s [[]] 0=some [[x]]->dV x=true->nR s=x:=
 ⟨⟨fun⟨x,h1,h2⟩=>(FL (MR h1 h2)).1,fun h=>by
   obtain⟨x,hx⟩:=gJ h
   exact⟨x,BG hx,hx.1⟩⟩,fun x h1 h2=>(FL (MR h1 h2)).2⟩
end Go.Ab