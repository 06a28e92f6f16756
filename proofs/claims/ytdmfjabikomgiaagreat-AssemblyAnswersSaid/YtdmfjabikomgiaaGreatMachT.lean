/- The typed machine: the abstract machine's steps over typed data, in the style of continuations, so that the kernel can compute what a function does with unknown arguments. Definitions alone. What the typed machine comes to, the abstract machine comes to: one operation. What the typed machine comes to, the abstract machine comes to: operations. What the typed machine comes to, the abstract machine comes to: every operation but calls. What the typed machine comes to, the abstract machine comes to: any operation that calls no function of the program's. What the typed machine comes to, the abstract machine comes to: calls, regions, code. The typed machine is sound: what it computes of a function, a call of it comes to on the abstract machine. Plain lemmas for reading what the typed machine computes: numbers, sets as bits, rounds over a list. -/
import Derived.Test.YtdmfjabikomgiaaGreatMachC
namespace Go.Ab
inductive Leaf(TC:Type)(Ty:TC->Type)where|i(k:IntKind)(n:Int)|b(x:Bool)|s(l:List UInt8)|l(c:TC)(xs:List (Ty c))|o(v:Value)
structure Sig where
 TC:Type
 [dec:DecidableEq TC]Ty:TC->Type
 enc:(c:TC)->Ty c->D
 cells:(c:TC)->Ty c->List (Leaf TC Ty)ofCells:(c:TC)->List (Leaf TC Ty)->Option (Ty c)agg:TC->Bool
 size:TC->Nat
 elem:TypeId->Option TC
 lists:TypeId->List (Option TC)
attribute [instance] Sig.dec
variable (S : Sig)
inductive PD where|lf(x:Leaf S.TC S.Ty)|ag(cs:List (Leaf S.TC S.Ty))
inductive TL where|undef|skipped|d(x:PD S)|own(c:S.TC)(xs:List (S.Ty c))(lent:Bool)|loc(p:Place)|elt(p:Place)(i off:Nat)|seg(p:Place)(lo hi:Nat)|ptr(o off:Nat)|view(cs:List (Leaf S.TC S.Ty))|fn(f:Nat)(caps:List (Nat×Nat))|ref(o:Nat)
inductive TV where|fl(x:TL S)|agg(cs:List (TL S))|tup(vs:List (TL S))
abbrev TEnv:=List (Nat×TV S)
abbrev THeap:=List (List (TL S))
structure TSt where
 env:TEnv S
 heap:THeap S
variable {S}
def leafD:Leaf S.TC S.Ty->D|.i k n=>.v (.int k n)|.b x=>.v (.bool x)|.s l=>.v (.string ⟨⟨l⟩⟩)|.l c xs=>.list (xs.map (S.enc c))|.o v=>.v v
def PD.toD:PD S->D|.lf x=>leafD x|.ag cs=>.agg (cs.map leafD)
def TL.toA:TL S->AV|.undef=>.undef|.skipped=>.skipped|.d x=>.d x.toD|.own c xs l=>.own (xs.map (S.enc c)) l|.loc p=>.loc p|.elt p i off=>.elt p i off|.seg p i off=>.seg p i off|.ptr o off=>.ptr o off|.view cs=>.view (cs.map leafD)|.fn f caps=>.fn f caps|.ref o=>.ref o
def TV.toA:TV S->AV|.fl x=>x.toA|.agg cs=>.agg (cs.map TL.toA)|.tup vs=>.tup (vs.map TL.toA)
def envA(e:TEnv S):Env:=e.map fun(k,v)=>(k,v.toA)
def heapA(h:THeap S):Heap:=h.map fun cs=>cs.map TL.toA
def TSt.toS(s:TSt S):St:={env:=envA s.env,heap:=heapA s.heap}
def packT(g:Bool)(cs:List (Leaf S.TC S.Ty)):PD S:=if g then .ag cs else match cs with|x::_=>.lf x|[]=>.ag []
structure Sig.Ok(S:Sig)(P:Program):Prop where
 enc_eq:∀c x,S.enc c x=(packT (S:=S) (S.agg c) (S.cells c x)).toD
 of_eq:∀c cs x,S.ofCells c cs=some x->(S.cells c x).map (leafD (S:=S))=cs.map leafD
 inj:∀c x y,S.enc c x=S.enc c y->x=y
 len:∀c x,(S.cells c x).length=S.size c
 pos:∀c,0<S.size c
 one:∀c,S.agg c=false->S.size c=1
 elem:∀t c,S.elem t=some c->∃e,q2m P t=some e/\tyAgg P e=some (S.agg c)/\q0p P e=some (S.size c)
def getT:TEnv S->Nat->TV S|[],_=>.fl .undef|(k,v)::r,t=>if k=t then v else getT r t
def setT:TEnv S->Nat->TV S->TEnv S|[],t,v=>[(t,v)]|(k,u)::r,t,v=>if t<k then(t,v)::(k,u)::r else if t=k then(t,v)::r else(k,u)::setT r t v
def qb5:TEnv S->Nat->TEnv S|[],_=>[]|(k,u)::r,t=>if k=t then qb5 r t else(k,u)::qb5 r t
def qpo(e:TEnv S):List Nat->TEnv S|[]=>e|t::r=>qpo (qb5 e t) r
def replT:TEnv S->Nat->TV S->TEnv S|[],_,_=>[]|(k,u)::r,t,v=>if k=t then(k,v)::r else(k,u)::replT r t v
def TV.placed:TV S->Bool|.fl (.loc _)|.fl (.elt ..)|.fl (.seg ..)=>true|_=>false
def TV.isOwn:TV S->Bool|.fl (.own ..)=>true|_=>false
def TL.isOwn:TL S->Bool|.own .. =>true|_=>false
def killT:TEnv S->TEnv S|[]=>[]|(k,v)::r=>if v.placed then qb5 (killT r) k else(k,v)::killT r
def TV.sitsAt(t:Nat):TV S->Bool|.fl (.loc (.slot u))=>u==t|.fl (.elt (.slot u) _ _)=>u==t|.fl (.seg (.slot u) _ _)=>u==t|_=>false
def q8w(t:Nat):TEnv S->TEnv S|[]=>[]|(k,v)::r=>if v.sitsAt t then qb5 (q8w t r) k else(k,v)::q8w t r
def putT(e:TEnv S)(t:Nat)(v:TV S):TEnv S:=match v with|.fl .undef=>qb5 (if(getT e t).isOwn then q8w t e else e) t|.fl (.own c xs l)=>setT (q8w t e) t (.fl (.own c xs l))|v=>setT (if(getT e t).isOwn then q8w t e else e) t v
def TSt.put(s:TSt S)(dst:Option Nat)(v:TV S):TSt S:=match dst with|some t=>{s with env:=putT s.env t v}|none=>s
def TSt.del(s:TSt S):List Nat->TSt S|[]=>s|t::r=>TSt.del {s with env:=putT s.env t (.fl .undef)} r
def qdi(c:Option S.TC):Value->Option (TL S)
 |.slice none 0 0=>match c with|some c=>some (.own c [] false)|none=>none
 |.slice .. |.agg _|.tuple _|.func .. |.map (some _)|.chan (some _)|.iface .. |.pointer (some _)=>none|.int k n=>some (.d (.lf (.i k n)))|.bool x=>some (.d (.lf (.b x)))|.string ⟨⟨l⟩⟩=>some (.d (.lf (.s l)))|v=>some (.d (.lf (.o v)))
def qdj:List (Option S.TC)->List Value->Option (List (TL S))|_,[]=>some []|cs,v::r=>match qdi (cs.headD none) v,qdj cs.tail r with|some x,some xs=>some (x::xs)|_,_=>none
def qfq(cs:List (Option S.TC)):Value->TV S
 |.agg vs=>match qdj cs vs.toList with|some xs=>.agg xs|none=>.fl .undef
 |v=>match qdi (cs.headD none) v with|some x=>.fl x|none=>.fl .undef
def qc0(cs:List (Option S.TC)):Value->Option (List (TL S))|.agg vs=>qdj cs vs.toList|v=>match qdi (cs.headD none) v with|some x=>some [x]|none=>none
def TV.cells:TV S->List (TL S)|.agg cs=>cs|.fl (.d (.ag cs))=>cs.map fun x=>.d (.lf x)|.fl x=>[x]|.tup _=>[]
def qod:TL S->Option (Leaf S.TC S.Ty)|.d (.lf x)=>some x|.own c xs _=>some (.l c xs)|_=>none
def q4r:List (TL S)->Option (List (Leaf S.TC S.Ty))|[]=>some []|c::r=>match qod c,q4r r with|some x,some xs=>some (x::xs)|_,_=>none
def qjf:TV S->Option (PD S)
 |.agg cs=>match q4r cs with|some ds=>some (.ag ds)|none=>none
 |.fl (.d x)=>some x|.fl (.own c xs _)=>some (.lf (.l c xs))|_=>none
def TL.noAg:TL S->Bool|.d (.ag _)=>false|_=>true
def keepT(fl:Flag)(v:TV S):Option (TV S):=match fl,v with
 |.view,.fl (.own c xs _)=>some (.fl (.d (.lf (.l c xs))))|.view,.agg cs=>match q4r cs with|some ds=>some (.fl (.d (.ag ds)))|none=>if cs.all TL.noAg then some (.agg cs)else none
 |_,v=>some v
def qes:List (TL S)->Bool|[]=>true|.own _ _ l::r=>l&&qes r|_::r=>qes r
def cellT(h:THeap S)(o off:Nat):TL S:=match h[o]? with|some cs=>(cs[off]?).getD .undef|none=>.undef
def qbv(h:THeap S)(o off:Nat)(v:TL S):THeap S:=match h[o]? with|some cs=>h.set o (cs.set off v)|none=>h
def q2k(s:TSt S):Place->TV S|.slot t=>getT s.env t|.cell o off=>.fl (cellT s.heap o off)
def q8i(s:TSt S)(p:Place)(v:TL S):TSt S:=match p with|.slot t=>{s with env:=putT s.env t (.fl v)}|.cell o off=>{env:=killT s.env,heap:=qbv s.heap o off v}
def q5h(s:TSt S)(p:Place)(v:TL S):TSt S:=match p with|.slot t=>{s with env:=setT s.env t (.fl v)}|.cell o off=>{s with heap:=qbv s.heap o off v}
inductive LK(TC:Type)where|i(k:IntKind)|b|s|l(c:TC)
inductive OT(S:Sig)where|lf(k:LK S.TC)|own(c:S.TC)(lent:Bool)|ag(c:S.TC)|ptr(o off:Nat)|fn(f:Nat)(caps:List (Nat×Nat))|ref(o:Nat)|undef
structure OSpec(S:Sig)where res:List (OT S)heap:List (List (OT S))
structure TEn where
 E:Env0
 S:Sig
 res:FuncId->List (OT S)news:FuncId->List (List (OT S))cut:FuncId->Nat->Bool
 outs:FuncId->Option (List (List (OT S))):=fun _=>none
variable {T : TEn}
def evT(T:TEn)(s:TSt T.S)(t:TypeId):Operand->TV T.S|.tmp t=>getT s.env t|.const v=>qfq (T.S.lists t) v|.global _=>.fl .undef|.func f=>.fl (.fn f [])
def y1d:TV S->Option (PD S)|.fl (.d x)=>some x|_=>none
def q2e (T : TEn) (s : TSt T.S) (t : TypeId) (x : Operand) : Option (PD T.S) :=
 match x with
 | .const v => qjf (qfq (T.S.lists t) v)
 | _ => y1d (evT T s t x)
def qdw (T : TEn) (s : TSt T.S) (t : TypeId) : List Operand -> Option (List (PD T.S))
 | [] => some []
 | x :: r => match q2e T s t x, qdw T s t r with
  | some a, some as => some (a :: as)
  | _, _ => none
def q6b:TV S->Option (TV S)|.fl .undef|.fl .skipped|.fl (.loc _)|.fl (.elt ..)|.fl (.seg ..)|.tup _=>none|v=>some v
def y5h:TV S->Option (TV S)|.fl (.elt p i off)=>some (.fl (.elt p i off))|.fl (.seg p i off)=>some (.fl (.seg p i off))|v=>q6b v
def qbs(fl:Flag)(q:Bool)(s:TSt S)(p:Place):Option (TV S×TSt S):=match q2k s p with
 |.fl (.own c xs l)=>match fl with|.keep=>some (.fl (.loc p),s)|.view=>if l then some (.fl (.d (.lf (.l c xs))),s)else if q then none else some (.fl (.d (.lf (.l c xs))),q5h s p (.own c xs true))
 |.fl .undef|.fl .skipped|.fl (.loc _)|.agg _=>none|v=>some (v,s)
def qdu(s:TSt S)(o off:Nat):Nat->TSt S|0=>s|n+1=>qdu (match cellT s.heap o off with|.own c xs false=>q5h s (.cell o off) (.own c xs true)|_=>s) o (off+1) n
def nth{α β:Type}(xs:List α)(n:Int)(k:α->Option β):Option β:=if 0<=n then match xs[n.toNat]? with|some x=>k x|none=>none else none
def nthN{α β:Type}(xs:List α)(n:Nat)(k:α->Option β):Option β:=match xs[n]? with|some x=>k x|none=>none
def capOk{β:Type}(n:Nat)(k:Option β):Option β:=if n<=q07 then k else none
def hiK{β:Type}(len:Nat)(n:Int)(k:Nat->Option β):Option β:=if 0<=n/\n<=(len:Int)then k n.toNat else none
def chk{β:Type}(p:Prop) [Decidable p](k:Option β):Option β:=if p then k else none
variable {β : Type}
def loadT(T:TEn)(fl:Flag)(q:Bool)(t:TypeId)(a:TV T.S)(s:TSt T.S)(k:TV T.S->TSt T.S->Option β):Option β:=match tyAgg T.E.P t,q0p T.E.P t with
 |some false,_=>match a with
  |.fl (.ptr o off)=>match qbs fl q s (.cell o off)with|some (v,s1)=>k v s1|none=>none
  |.fl (.view (c::_))=>k (.fl (.d (.lf c))) s|.fl (.elt p i off)=>match q2k s p with
   |.fl (.own c xs _)=>nthN xs i fun x=>match(T.S.cells c x).drop off with|y::_=>k (.fl (.d (.lf y))) s|[]=>none
   |_=>none
  |_=>none
 |some true,some n=>match a with
  |.fl (.ptr o off)=>match s.heap[o]? with|some cs=>if off+n<=cs.length then match q4r ((cs.drop off).take n)with|some ds=>if qes ((cs.drop off).take n)then k (.fl (.d (.ag ds))) s else if q then none else k (.fl (.d (.ag ds))) (qdu s o off n)|none=>none else none|none=>none
  |.fl (.view cs)=>if n<=cs.length then k (.fl (.d (.ag (cs.take n)))) s else none|.fl (.elt p i off)=>match q2k s p with|.fl (.own c xs _)=>nthN xs i fun x=>if n<=((T.S.cells c x).drop off).length then k (.fl (.d (.ag (((T.S.cells c x).drop off).take n)))) s else none|_=>none
  |_=>none
 |_,_=>none
def y34:TV S->Option Nat|.fl (.ptr o _)=>some o|.fl (.loc (.cell o _))=>some o|.fl (.elt (.cell o _) _ _)=>some o|.fl (.seg (.cell o _) _ _)=>some o|_=>none
def hitsT(objs:List Nat)(v:TV S):Bool:=v.placed&&(match y34 v with|some o=>objs.contains o|none=>false)
def q8j(objs:List Nat):TEnv S->TEnv S|[]=>[]|(k,v)::r=>if hitsT objs v then qb5 (q8j objs r) k else(k,v)::q8j objs r
def qcy(a:TV T.S)(vs:List (TL T.S))(s:TSt T.S)(k:TSt T.S->Option β):Option β:=match a with
 |.fl (.ptr o off)=>match s.heap[o]? with|some cs=>if off+vs.length<=cs.length then k {env:=if((cs.drop off).take vs.length++vs).any TL.isOwn then q8j [o] s.env else s.env,heap:=s.heap.set o (cs.take off++vs++cs.drop (off+vs.length))}else none|none=>none
 |.fl (.elt p i off)=>match q2k s p,q4r vs with|.fl (.own c xs false),some ds=>nthN xs i fun x=>if off+ds.length<=(T.S.cells c x).length/\0<ds.length then match T.S.ofCells c ((T.S.cells c x).take off++ds++(T.S.cells c x).drop (off+ds.length))with|some y=>k (q5h s p (.own c (xs.set i y) false))|none=>none else none|_,_=>none
 |_=>none
def y19:TL S->Bool|.d (.ag _)|.undef|.skipped|.loc _|.elt .. |.seg .. |.ref _=>false|_=>true
def y48(T:TEn)(t:TypeId)(a x:Operand)(s:TSt T.S)(k:TSt T.S->Option β):Option β:=match q6b (evT T s t x),tyAgg T.E.P t,q0p T.E.P t with|some v,some _,some n=>if v.cells.length=n/\v.cells.all y19 then qcy (evT T s t a) v.cells (s.del (tmpOf x)) k else none|_,_,_=>none
def andI(k:IntKind)(a b:Int):Int:=k.wrap ((BitVec.ofInt k.bits a)&&&(BitVec.ofInt k.bits b)).toNat
def orI(k:IntKind)(a b:Int):Int:=k.wrap ((BitVec.ofInt k.bits a)|||(BitVec.ofInt k.bits b)).toNat
def xorI(k:IntKind)(a b:Int):Int:=k.wrap ((BitVec.ofInt k.bits a)^^^(BitVec.ofInt k.bits b)).toNat
def qfu(k:IntKind)(a b:Int):Int:=k.wrap ((BitVec.ofInt k.bits a)&&&~~~(BitVec.ofInt k.bits b)).toNat
def shlI(k:IntKind)(a b:Int):Int:=k.wrap (a*2^(min b.toNat k.bits))
def shrI(k:IntKind)(a b:Int):Int:=a.fdiv (2^(min b.toNat k.bits))
def addI(k:IntKind)(a b:Int):Int:=k.wrap (a+b)
def subI(k:IntKind)(a b:Int):Int:=k.wrap (a-b)
def mulI(k:IntKind)(a b:Int):Int:=k.wrap (a*b)
def quoI(k:IntKind)(a b:Int):Int:=k.wrap (a.tdiv b)
def remI(_:IntKind)(a b:Int):Int:=a.tmod b
def negI(k:IntKind)(a:Int):Int:=k.wrap (0-a)
def eqB(a b:Int):Bool:=decide (a=b)
def neB(a b:Int):Bool:=!decide (a=b)
def ltB(a b:Int):Bool:=decide (a<b)
def leB(a b:Int):Bool:=decide (a<=b)
def eqS(a b:List UInt8):Bool:=decide (a=b)
def ltS(a b:List UInt8):Bool:=Op.bytesLess a b
def leS(a b:List UInt8):Bool:=Op.bytesLess a b||decide (a=b)
abbrev LfK(S:Sig)(β:Type):=Leaf S.TC S.Ty->Option β
def binT'(P:Program)(op:BinOp)(t:TypeId)(x y:Leaf S.TC S.Ty)(k:LfK S β):Option β:=match x,y with
 |.i κ a,.i κ' b=>match op with|.shl=>chk (0<=b) (k (.i κ (shlI κ a b)))|.shr=>chk (0<=b) (k (.i κ (shrI κ a b)))|.add=>if κ=κ' then k (.i κ (addI κ a b))else none|.sub=>if κ=κ' then k (.i κ (subI κ a b))else none|.mul=>if κ=κ' then k (.i κ (mulI κ a b))else none|.quo=>if κ=κ' then chk (b≠0) (k (.i κ (quoI κ a b)))else none|.rem=>if κ=κ' then chk (b≠0) (k (.i κ (remI κ a b)))else none|.and=>if κ=κ' then k (.i κ (andI κ a b))else none|.or=>if κ=κ' then k (.i κ (orI κ a b))else none|.xor=>if κ=κ' then k (.i κ (xorI κ a b))else none|.andNot=>if κ=κ' then k (.i κ (qfu κ a b))else none|.eql=>if κ=κ' then k (.b (eqB a b))else none|.neq=>if κ=κ' then k (.b (neB a b))else none|.lss=>if κ=κ' then k (.b (ltB a b))else none|.leq=>if κ=κ' then k (.b (leB a b))else none|.gtr=>if κ=κ' then k (.b (ltB b a))else none|.geq=>if κ=κ' then k (.b (leB b a))else none
 |.s a,.s b=>match op with|.add=>chk (a.length+b.length<=9223372036854775807) (k (.s (a++b)))|.eql=>k (.b (eqS a b))|.neq=>k (.b (!eqS a b))|.lss=>k (.b (ltS a b))|.leq=>k (.b (leS a b))|.gtr=>k (.b (!leS a b))|.geq=>k (.b (!ltS a b))|_=>none
 |.b a,.b b=>match op,P.underlying t with|.eql,some .bool=>k (.b (a==b))|.neq,some .bool=>k (.b (!(a==b)))|_,_=>none
 |_,_=>none
def unT(op:UnOp)(x:Leaf S.TC S.Ty):Option (Leaf S.TC S.Ty):=match op,x with|.not,.b x=>some (.b (!x))|.neg,.i κ n=>some (.i κ (negI κ n))|_,_=>none
def idxT:TV S->Option Int|.fl (.d (.lf (.i _ n)))=>some n|_=>none
def fillT(place:Nat->Option (Nat×Nat))(cells:List (TL S)):List (Nat×TV S)->Option (List (TL S))|[]=>some cells|(i,v)::r=>match place i with|some (off,size)=>if v.cells.length=size/\off+size<=cells.length then fillT place (cells.take off++v.cells++cells.drop (off+size)) r else none|none=>none
def ycx(P:Program)(t:TypeId)(i:Nat):TypeId:=match P.underlying t with
 |some (.struct fs)=>match fs[i]? with|some f=>f.type|none=>0
 |some (.array _ e)=>e|_=>0
def qrs(T:TEn)(t:TypeId)(s:TSt T.S):List (Nat×Operand)->Option (List (Nat×TV T.S))|[]=>some []|(i,x)::r=>match q6b (evT T s (ycx T.E.P t i) x),qrs T t (s.del (tmpOf x)) r with|some v,some vs=>some ((i,v)::vs)|_,_=>none
def allLf:List (TL S)->Option (List (Leaf S.TC S.Ty))
 |[]=>some []|.d (.lf x)::r=>match allLf r with|some xs=>some (x::xs)|none=>none
 |_::_=>none
def qoa(cs:List (TL S)):Option (TV S):=match allLf cs with|some ds=>some (.fl (.d (.ag ds)))|none=>if cs.all TL.noAg then some (.agg cs)else none
def ofPD(c:S.TC):PD S->Option (S.Ty c)|.lf x=>if S.agg c then none else S.ofCells c [x]|.ag cs=>if S.agg c then S.ofCells c cs else none
def ofPDs(c:S.TC):List (PD S)->Option (List (S.Ty c))|[]=>some []|x::r=>match ofPD c x,ofPDs c r with|some y,some ys=>some (y::ys)|_,_=>none
def qaz(c:S.TC):Leaf S.TC S.Ty->Option (List (S.Ty c))|.l c' xs=>if h:c'=c then some (h▸xs)else none|_=>none
def lenT(T:TEn)(t:TypeId)(a:TV T.S)(s:TSt T.S):Option Nat:=match T.E.P.underlying t,a with
 |some .string,.fl (.d (.lf (.s l)))=>some l.length|some (.slice _),.fl (.d (.lf (.l _ xs)))=>some xs.length|some (.slice _),.fl (.loc p)=>match q2k s p with|.fl (.own _ xs _)=>some xs.length|_=>none
 |some (.slice _),.fl (.ref o)=>match cellT s.heap o 0 with|.own _ xs _=>some xs.length|_=>none
 |some (.slice _),.fl (.seg p lo hi)=>match q2k s p with|.fl (.own ..)=>some (hi-lo)|_=>none
 |_,_=>none
def qd6(len:Nat)(lo hi:Option (TV S))(k:Nat->Nat->Option β):Option β:=match hi with
 |none=>match lo with|none=>k 0 len|some a=>match idxT a with|some n=>hiK len n fun l=>k l len|none=>none
 |some b=>match idxT b with|none=>none|some m=>hiK len m fun h=>match lo with|none=>k 0 h|some a=>match idxT a with|some n=>hiK h n fun l=>k l h|none=>none
def segT(T:TEn)(t:TypeId)(a:TV T.S)(lo hi mx:Option Operand)(s:TSt T.S)(k:TV T.S->Option β):Option β:=match mx,a with
 |none,.fl (.loc p)=>match q2k s p with|.fl (.own c xs _)=>if T.S.elem t=some c then qd6 xs.length (lo.map (evT T s 0)) (hi.map (evT T s 0)) fun l h=>k (.fl (.seg p l h))else none|_=>none
 |none,.fl (.ref o)=>match cellT s.heap o 0 with|.own c xs _=>if T.S.elem t=some c then qd6 xs.length (lo.map (evT T s 0)) (hi.map (evT T s 0)) fun l h=>k (.fl (.seg (.cell o 0) l h))else none|_=>none
 |none,.fl (.seg p a0 b0)=>match q2k s p with|.fl (.own c xs _)=>if T.S.elem t=some c then chk (b0<=xs.length) (qd6 (b0-a0) (lo.map (evT T s 0)) (hi.map (evT T s 0)) fun l h=>k (.fl (.seg p (a0+l) (a0+h))))else none|_=>none
 |_,_=>none
def y26(T:TEn)(t:TypeId)(x:Operand)(lo hi mx:Option Operand)(s:TSt T.S)(k:TV T.S->Option β):Option β:=match mx,q2e T s t x with
 |none,some (.lf (.s l))=>match T.E.P.underlying t with|some .string=>qd6 l.length (lo.map (evT T s 0)) (hi.map (evT T s 0)) fun a b=>k (.fl (.d (.lf (.s ((l.take b).drop a)))))|_=>none
 |none,some (.lf (.l c xs))=>if T.S.elem t=some c then qd6 xs.length (lo.map (evT T s 0)) (hi.map (evT T s 0)) fun a b=>k (.fl (.d (.lf (.l c ((xs.take b).drop a)))))else none|_,_=>segT T t (evT T s t x) lo hi mx s k
def yak(P:Program)(t:TypeId):Bool:=match q2m P t with
 |some e=>match q7v P e with|some b=>decide (0<b/\b<=65536)&&qhl P e|none=>false
 |none=>false
def qts(T:TEn)(q:Bool)(t:TypeId)(x y:Operand)(s:TSt T.S)(k:TV T.S->TSt T.S->Option β):Option β:=match T.S.elem t,q2e T s t y with
 |some c,some (.lf yl)=>match qaz c yl with
  |some ys=>if yak T.E.P t then match evT T s t x with
    |.fl (.own c' xs l)=>match qaz c (.l c' xs)with|some xs=>capOk (xs.length+ys.length) (k (.fl (.own c (xs++ys) l)) s)|none=>none
    |.fl (.loc p)=>match q2k s p with
     |.fl (.own c' xs l)=>if q then none else match qaz c (.l c' xs)with|some xs=>capOk (xs.length+ys.length) (k (.fl (.own c (xs++ys) l)) (q8i s p .undef))|none=>none
     |_=>none
    |_=>none else none|none=>none
 |_,_=>none
def qg2(T:TEn)(t:TypeId)(a:TV T.S)(n:Int)(s:TSt T.S)(k:TV T.S->Option β):Option β:=match T.S.elem t,T.E.P.underlying t,a with
 |some c,some (.slice _),.fl (.loc p)=>match q2k s p with|.fl (.own c' xs _)=>if c'=c then nth xs n fun _=>k (.fl (.elt p n.toNat 0))else none|_=>none
 |some c,some (.slice _),.fl (.ref o)=>match cellT s.heap o 0 with|.own c' xs _=>if c'=c then nth xs n fun _=>k (.fl (.elt (.cell o 0) n.toNat 0))else none|_=>none
 |some c,some (.slice _),.fl (.seg p lo hi)=>match q2k s p with|.fl (.own c' xs _)=>if c'=c then chk (0<=n/\n<((hi-lo:Nat):Int)) (nthN xs (lo+n.toNat) fun _=>k (.fl (.elt p (lo+n.toNat) 0)))else none|_=>none
 |some c,some (.slice _),.fl (.d (.lf (.l c' xs)))=>if c'=c then nth xs n fun x=>k (.fl (.view (T.S.cells c' x)))else none|_,some (.array m e),.fl (.ptr o b)=>match q0p T.E.P e with|some sz=>if 0<=n/\n<m/\1<m/\0<sz then k (.fl (.ptr o (b+n.toNat*sz)))else none|none=>none
 |_,some (.array m e),.fl (.view cs)=>match q0p T.E.P e with|some sz=>if 0<=n/\n<m/\1<m/\0<sz then k (.fl (.view (cs.drop (n.toNat*sz))))else none|none=>none
 |_,_,_=>none
def partT(P:Program)(t:TypeId)(cs:List (Leaf S.TC S.Ty))(off:Nat):Option (PD S):=match tyAgg P t,q0p P t with
 |some true,some n=>if off+n<=cs.length then some (.ag ((cs.drop off).take n))else none|some false,_=>match cs[off]? with|some x=>some (.lf x)|none=>none
 |_,_=>none
def qpe(T:TEn)(c:T.S.TC)(u:TypeId)(y:Operand)(s:TSt T.S)(k:List (T.S.Ty c)->Option β):Option β:=match evT T s u y with
 |.fl (.seg p lo hi)=>match q2k s p with
  |.fl (.own c' xs _)=>match qaz c (.l c' xs)with|some ys=>chk (hi<=ys.length) (k ((ys.take hi).drop lo))|none=>none
  |_=>none
 |_=>match q2e T s u y with
  |some (.lf yl)=>match qaz c yl with|some ys=>k ys|none=>none
  |_=>none
def copyT(T:TEn)(t u:TypeId)(x y:Operand)(s:TSt T.S)(k:TV T.S->TSt T.S->Option β):Option β:=match evT T s t x with
 |.fl (.seg p lo hi)=>match q2k s p with|.fl (.own c xs false)=>if T.S.elem t=some c/\T.S.elem u=some c then qpe T c u y s fun ys=>chk (hi<=xs.length) (k (.fl (.d (.lf (.i .i64 ((min (hi-lo) ys.length:Nat):Int))))) (q5h s p (.own c (xs.take lo++ys.take (hi-lo)++xs.drop (lo+min (hi-lo) ys.length)) false)))else none|_=>none
 |_=>none
def capsT(T:TEn)(s:TSt T.S):List Operand->Option (List (Nat×Nat))|[]=>some []|x::r=>match evT T s 0 x,capsT T s r with|.fl (.ptr o a),some ps=>some ((o,a)::ps)|_,_=>none
def eqVT(P:Program)(t:TypeId)(a b:Leaf S.TC S.Ty):Option Bool:=match P.underlying t,a,b with|some .bool,.b a,.b b=>some (a==b)|some (.int _),.i κ a,.i κ' b=>if κ=κ' then some (eqB a b)else none|some .string,.s a,.s b=>some (eqS a b)|_,_,_=>none
def eqFsT(P:Program)(xs ys:List (Leaf S.TC S.Ty)):List Field->Option Bool|[]=>some true|f::r=>if f.name= "_"then none else match partT P f.type xs f.offset,partT P f.type ys f.offset with
  |some (.lf a),some (.lf b)=>match eqVT P f.type a b,eqFsT P xs ys r with|some x,some y=>some (x&&y)|_,_=>none
  |_,_=>none
def y3j(P:Program)(op:BinOp)(t:TypeId)(xs ys:List (Leaf S.TC S.Ty)):Option Bool:=match P.underlying t with
 |some (.struct fs)=>if P.stoodInHeld t=false/\P.eqGuardType P.depth t=false then match op with
   |.eql=>eqFsT P xs ys fs.toList|.neq=>match eqFsT P xs ys fs.toList with|some b=>some (!b)|none=>none
   |_=>none else none|_=>none
def qu4(T:TEn)(fl:Flag)(q:Bool)(ty:TypeId)(op:Op)(s:TSt T.S):Option (TV T.S×TSt T.S):=match op with
 |.move (.tmp t)=>qbs fl q s (.slot t)|.move x|.assign x=>match y5h (evT T s ty x)with|some v=>some (v,s)|none=>none
 |.alloc e=>match q4j T.E.P e with
  |some z=>match qc0 (T.S.lists e) z with|some cs=>some (.fl (.ptr s.heap.length 0),{s with heap:=s.heap++[cs]})|none=>none
  |none=>none
 |.box e x=>match q6b (evT T s e x),q0p T.E.P e with|some v,some n=>if v.cells.length=n then some (.fl (.ptr s.heap.length 0),{s with heap:=s.heap++[v.cells]})else none|_,_=>none
 |.build t parts=>match q4j T.E.P t,qrs T t s parts.toList with
  |some (.agg z),some ps=>if qf7 T.E.P t then match qdj (T.S.lists t) z.toList with
   |some cs0=>match fillT (fieldPlace T.E.P t) cs0 ps with
    |some cs=>match qoa cs with|some v=>some (v,s)|none=>none
    |none=>none
   |none=>none else none|_,_=>none
 |.buildSlice t n parts=>match T.S.elem t,q2m T.E.P t with
  |some c,some e=>match qdw T s e (parts.toList.map (·.2))with
   |some ps=>match ofPDs c ps with|some xs=>if q5o 0 parts.toList/\xs.length=n/\n<=65536/\qhl T.E.P e/\qua T.E.P e then some (.fl (.own c xs false),s)else none|none=>none
   |none=>none
  |_,_=>none
 |.nilCheck x=>match evT T s ty x with|.fl (.ptr o off)=>some (.fl (.ptr o off),s)|.fl (.view cs)=>some (.fl (.view cs),s)|.fl (.elt p i off)=>if(q2k s p).isOwn then some (.fl (.elt p i off),s)else none|.fl (.fn f cs)=>some (.fl (.fn f cs),s)|_=>none
 |.unOp op t x=>match q2e T s t x with
  |some (.lf a)=>match unT op a with|some r=>some (.fl (.d (.lf r)),s)|none=>none
  |_=>none
 |.convert src dst x=>match T.E.P.underlying src,T.E.P.underlying dst,q2e T s src x with|some (.int _),some (.int κ),some (.lf (.i _ n))=>some (.fl (.d (.lf (.i κ (κ.wrap n)))),s)|some .string,some .string,some (.lf (.s b))=>some (.fl (.d (.lf (.s b))),s)|_,_,_=>none
 |.fieldAddr t x i=>match q3e T.E.P t i with
  |some (off,u)=>match q0p T.E.P u with
   |some (_+1)=>match evT T s 0 x with|.fl (.ptr o a)=>some (.fl (.ptr o (a+off)),s)|.fl (.view cs)=>some (.fl (.view (cs.drop off)),s)|.fl (.elt p j a)=>if(q2k s p).isOwn then some (.fl (.elt p j (a+off)),s)else none|_=>none
   |_=>none
  |none=>none
 |.field t x i=>match q2e T s t x,q3e T.E.P t i with
  |some (.ag cs),some (off,u)=>match partT T.E.P u cs off with|some y=>some (.fl (.d y),s)|none=>none
  |_,_=>none
 |.extract (.tmp t) i=>match getT s.env t with
  |.tup vs=>match vs[i]? with|some (.d x)=>some (.fl (.d x),s)|some (.ptr o a)=>some (.fl (.ptr o a),s)|_=>none
  |_=>none
 |.makeFunc (.func f) first caps=>if first.size=0 then match capsT T s caps.toList with|some ps=>some (.fl (.fn f ps),s)|none=>none else none|.call {callee:=.builtin .len,args,argTypes}=>match args.toList,argTypes.toList with
  |[x],[t]=>match lenT T t (evT T s t x) s with|some n=>some (.fl (.d (.lf (.i .i64 (n:Int)))),s)|none=>none
  |_,_=>none
 |.call {callee:=.builtin .max,args,.. }=>match args.toList with
  |[x,y]=>match q2e T s 0 x,q2e T s 0 y with|some (.lf (.i κ a)),some (.lf (.i _ b))=>some (.fl (.d (.lf (.i κ (if b>a then b else a)))),s)|_,_=>none
  |_=>none
 |.call {callee:=.builtin .min,args,.. }=>match args.toList with
  |[x,y]=>match q2e T s 0 x,q2e T s 0 y with|some (.lf (.i κ a)),some (.lf (.i _ b))=>some (.fl (.d (.lf (.i κ (if b<a then b else a)))),s)|_,_=>none
  |_=>none
 |_=>none
def stepT(T:TEn)(fl:Flag)(q:Bool)(ty:TypeId)(op:Op)(s:TSt T.S)(k:TV T.S->TSt T.S->Option β):Option β:=match op with
 |.load t a=>loadT T fl q t (evT T s 0 a) s k|.pick c a b=>match evT T s 0 c with
  |.fl (.d (.lf (.b t)))=>match t with
   |true=>match q2e T s ty a with|some x=>k (.fl (.d x)) s|none=>none
   |false=>match q2e T s ty b with|some x=>k (.fl (.d x)) s|none=>none
  |_=>none
 |.binOp op t x y t'=>match q2e T s t x,q2e T s t' y with
  |some (.lf a),some (.lf b)=>binT' T.E.P op t a b fun r=>k (.fl (.d (.lf r))) s|some (.ag xs),some (.ag ys)=>match y3j T.E.P op t xs ys with|some r=>k (.fl (.d (.lf (.b r)))) s|none=>none
  |_,_=>none
 |.slice t x lo hi mx=>y26 T t x lo hi mx s fun v=>k v s|.indexAddr t x i=>match idxT (evT T s 0 i)with|some n=>qg2 T t (evT T s t x) n s fun v=>k v s|none=>none
 |.index t x i=>match T.E.P.underlying t,idxT (evT T s 0 i),q2e T s t x with|some .string,some n,some (.lf (.s l))=>nth l n fun b=>k (.fl (.d (.lf (.i .u8 b.toNat)))) s|_,_,_=>none
 |.makeSlice t l c=>match T.S.elem t,q2m T.E.P t,q2e T s 0 l,q2e T s 0 c with
  |some cd,some e,some (.lf (.i .i64 n)),some (.lf (.i .i64 m))=>match(q4j T.E.P e).bind fun z=>qjf (qfq (T.S.lists e) z),q7v T.E.P e with
   |some z,some b=>match ofPD cd z with|some x=>if b<=65536 then chk (n=m/\0<=n/\n<=65536) (k (.fl (.own cd (List.replicate n.toNat x) false)) s)else none|none=>none
   |_,_=>none
  |_,_,_,_=>none
 |.call {callee:=.builtin .append,args,argTypes}=>match args.toList,argTypes.toList with|[x,y],[t,u]=>if t=u then qts T q t x y s k else none|_,_=>none
 |.call {callee:=.builtin .copy,args,argTypes}=>match args.toList,argTypes.toList with|[x,y],[t,u]=>if q then none else copyT T t u x y s k|_,_=>none
 |op=>match qu4 T fl q ty op s with|some (v,s1)=>k v s1|none=>none
def LK.Ty(S:Sig):LK S.TC->Type|.i _=>Int|.b=>Bool|.s=>List UInt8|.l c=>List (S.Ty c)
def OT.Ty:OT S->Type|.lf k=>k.Ty S|.own c _=>List (S.Ty c)|.ag c=>S.Ty c|.ptr .. |.fn .. |.ref _|.undef=>Unit
def Prods:List (OT S)->Type|[]=>Unit|[a]=>a.Ty|a::b::r=>a.Ty×Prods (b::r)
def LK.mk:(k:LK S.TC)->k.Ty S->Leaf S.TC S.Ty|LK.i κ,n=>.i κ n|LK.b,x=>.b x|LK.s,z=>.s z|LK.l c,xs=>.l c xs
def OT.mk:(a:OT S)->a.Ty->TL S|.lf k,x=>.d (.lf (k.mk x))|.own c l,xs=>.own c xs l|.ag c,x=>.d (packT (S.agg c) (S.cells c x))|.ptr o off,_=>.ptr o off|.fn f caps,_=>.fn f caps|.ref o,_=>.ref o|.undef,_=>.undef
def vals:(l:List (OT S))->Prods l->List (TL S)|[],_=>[]|[a],x=>[a.mk x]|a::b::r,x=>a.mk x.1::vals (b::r) x.2
def LK.of:(k:LK S.TC)->Leaf S.TC S.Ty->Option (k.Ty S)|.i κ,.i κ' n=>if κ'=κ then some n else none|.b,.b x=>some x|.s,.s z=>some z|.l c,x=>qaz c x|_,_=>none
def OT.of:(a:OT S)->TL S->Option a.Ty|.lf k,.d (.lf x)=>k.of x|.own c l,.own c' xs l'=>if l'=l then qaz c (.l c' xs)else none|.ag c,.d x=>ofPD c x|.ptr o off,.ptr o' off'=>if o'=o/\off'=off then some ()else none|.fn f cs,.fn f' cs'=>if f'=f/\cs'=cs then some ()else none|.ref o,.ref o'=>if o'=o then some ()else none|.undef,.undef=>some ()|_,_=>none
def qdy:(l:List (OT S))->List (TL S)->Option (Prods l)
 |[],[]=>some ()|[a],[v]=>a.of v|a::b::r,v::vs=>match a.of v,qdy (b::r) vs with|some x,some xs=>some (x,xs)|_,_=>none
 |_,_=>none
def OSpec.all(o:OSpec S):List (OT S):=o.res++o.heap.flatten
abbrev OSpec.Out(o:OSpec S):Type:=Prods o.all
def q4q:List Nat->List (TL S)->THeap S|[],_=>[]|n::r,vs=>vs.take n::q4q r (vs.drop n)
def resOf(o:OSpec S)(x:o.Out):List (TL S):=(vals o.all x).take o.res.length
def q30(o:OSpec S)(x:o.Out):THeap S:=q4q (o.heap.map List.length) ((vals o.all x).drop o.res.length)
def ydg:TL S->OT S|.d (.lf (.i κ _))=>.lf (.i κ)|.d (.lf (.b _))=>.lf .b|.d (.lf (.s _))=>.lf .s|.d (.lf (.l c _))=>.lf (.l c)|.own c _ l=>.own c l|.ptr o off=>.ptr o off|.fn f cs=>.fn f cs|.ref o=>.ref o|_=>.ptr 0 0
def qid:List (TL S)->TV S|[v]=>.fl v|vs=>.tup vs
def CSem(T:TEn)(f:FuncId)(vs:List (TL T.S))(hs:THeap T.S)(o:OSpec T.S)(x:o.Out):Prop:=∃m,call T.E m f (vs.map TL.toA) (heapA hs)=some (q11 ((resOf o x).map TL.toA),heapA (q30 o x))
open Classical in
noncomputable def callC(T:TEn)(f:FuncId)(vs:List (TL T.S))(hs:THeap T.S)(o:OSpec T.S):Option o.Out:=if h:∃x,CSem T f vs hs o x then some h.choose else none
def ptrsT:TL S->List Nat|.ptr o _=>[o]|.ref o=>[o]|.fn _ cs=>cs.map (·.1)|_=>[]
def qk9:TV S->List Nat|.agg cs=>cs.flatMap ptrsT|.tup cs=>cs.flatMap ptrsT|.fl (.loc (.cell o _))=>[o]|.fl (.elt (.cell o _) _ _)=>[o]|.fl (.seg (.cell o _) _ _)=>[o]|.fl v=>ptrsT v
def dropT(m:Nat):TEnv S->TEnv S|[]=>[]|(k,v)::r=>if(qk9 v).all (fun o=>decide (o<m))then(k,v)::dropT m r else qb5 (dropT m r) k
def q6w(m:Nat)(h:THeap S):Bool:=(h.take m).all fun cs=>cs.all fun c=>(ptrsT c).all fun o=>decide (o<m)
def trimT(m:Nat)(s:TSt S):TSt S:=if q6w m s.heap then{env:=dropT m s.env,heap:=s.heap.take m}else s
def renT(ρ:Nat->Nat):TL S->TL S|.ptr o a=>.ptr (ρ o) a|.ref o=>.ref (ρ o)|.fn f cs=>.fn f (cs.map fun(o,a)=>(ρ o,a))|v=>v
def qxg(ρ:Nat->Nat):TV S->TV S|.agg cs=>.agg (cs.map (renT ρ))|.tup cs=>.tup (cs.map (renT ρ))|.fl v=>.fl (renT ρ v)
def qtp(ρ:Nat->Nat)(e:TEnv S):TEnv S:=e.map fun p=>(p.1,qxg ρ p.2)
def qoc(s:TSt S)(o:Nat):Bool:=(s.env.all fun p=>!(qk9 p.2).contains o)&&s.heap.all fun cs=>cs.all fun c=>!(ptrsT c).contains o
def qgd(o' o0:Nat)(s:TSt S):TSt S:={env:=qtp (ρm o' o0) (killT s.env),heap:=((s.heap.set o0 (s.heap.getD o' [])).take o').map fun cs=>cs.map (renT (ρm o' o0))}
def y3n(o:Nat):TV S->Bool|.fl (.ptr o' _)=>o'==o|_=>false
def qb1(k:Nat)(s:TSt S):Nat->Option Nat|0=>none|m+1=>if k<=m/\qoc s m=true/\(s.heap.getD m []).length=(s.heap.getD (s.heap.length-1) []).length then some m else qb1 k s m
def qns(k m:Nat):Nat->TSt S->TSt S|0,s=>s|n+1,s=>if m<s.heap.length/\(s.env.any fun p=>y3n (s.heap.length-1) p.2)=true then match qb1 k s m with|some o0=>qns k m n (qgd (s.heap.length-1) o0 s)|none=>s else s
def qj4(k m:Nat)(s:TSt S):TSt S:=trimT m (qns k m 3 s)
inductive Fr where|seq(b:Code)|block(id m:Nat)|loop(b:Code)(m:Nat)
noncomputable def unw(E:Env0)(f:FuncId)(k n:Nat):List Fr->Ex->St->Option (Ex×St)
 |[],ex,s=>some (ex,s)|.seq b::K,.normal,s=>match exec E f k n b s with|some (ex,s1)=>unw E f k n K ex s1|none=>none
 |.seq _::K,ex,s=>unw E f k n K ex s|.block id m::K,.exit id',s=>if id'=id then unw E f k n K .normal (trim m s)else unw E f k n K (.exit id') s|.block _ m::K,.normal,s=>unw E f k n K .normal (trim m s)|.block _ _::K,.ret,s=>unw E f k n K .ret s|.loop b m::K,.normal,s=>match exec E f k n (.loop b) (endRound k m s)with|some (ex,s1)=>unw E f k n K ex s1|none=>none
 |.loop _ _::K,ex,s=>unw E f k n K ex s
def fin(own:Bool)(P:Program)(fn:Func)(k:Nat):Ex->St->Option (AV×Heap)|.normal,s|.ret,s=>qbb own P fn k s|_,_=>none
structure Fx where
 f:FuncId
 fn:Func
 k:Nat
def Goes(E:Env0)(F:Fx)(c:Code)(K:List Fr)(s:St)(q:AV×Heap):Prop:=∃n ex s1 ex' s2,exec E F.f F.k n c s=some (ex,s1)/\unw E F.f F.k n K ex s1=some (ex',s2)/\fin (E.an.own F.f) E.P F.fn F.k ex' s2=some q
def BSem(T:TEn)(F:Fx)(o:OSpec T.S)(c:Code)(K:List Fr)(s:TSt T.S)(x:o.Out):Prop:=Goes T.E F c K s.toS (q11 ((resOf o x).map TL.toA),heapA (q30 o x))
open Classical in
noncomputable def goC(T:TEn)(F:Fx)(o:OSpec T.S)(c:Code)(K:List Fr)(s:TSt T.S):Option o.Out:=if h:∃x,BSem T F o c K s x then some h.choose else none
def qe9(h:THeap S):List Nat->Option (THeap S)|[]=>some []|o::r=>match h[o]?,qe9 h r with|some cs,some hs=>some (cs::hs)|_,_=>none
def argT(T:TEn)(s:TSt T.S)(t:TypeId)(x:Operand):Option (TL T.S):=match evT T s t x with|.fl (.ptr o a)=>some (.ptr o a)|.fl (.fn f cs)=>some (.fn f cs)|.fl (.view cs)=>some (.view cs)|.fl (.ref o)=>some (.ref o)|_=>match q2e T s t x with|some x=>some (.d x)|none=>none
def argsT(T:TEn)(s:TSt T.S):List TypeId->List Operand->Option (List (TL T.S))|_,[]=>some []|ts,x::r=>match argT T s (ts.headD 0) x,argsT T s ts.tail r with|some v,some vs=>some (v::vs)|_,_=>none
def outT:TV S->Option (TL S)|.fl (.ptr o a)=>some (.ptr o a)|.fl (.ref o)=>some (.ref o)|.fl (.fn f cs)=>some (.fn f cs)|v=>match qjf v with|some x=>some (.d x)|none=>none
def qvj(P:Program)(s:TSt S):ResultVar->Option (TL S)|.tmp t=>outT (getT s.env t)|.cell a t=>match getT s.env a with
  |.fl (.ptr o off)=>match tyAgg P t,q0p P t,s.heap[o]? with
   |some true,some n,some cs=>if off+n<=cs.length then match q4r ((cs.drop off).take n)with|some ds=>some (.d (.ag ds))|none=>none else none|some false,_,some cs=>match cs[off]? with|some v=>outT (.fl v)|none=>none
   |_,_,_=>none
  |_=>none
def qei(P:Program)(s:TSt S):List ResultVar->Option (List (TL S))|[]=>some []|x::r=>match qvj P s x,qei P s r with|some v,some vs=>some (v::vs)|_,_=>none
def y4y(s:TSt S)(k:Nat):ResultVar->Bool|.tmp _=>true|.cell a _=>match getT s.env a with|.fl (.ptr o _)=>decide (k<=o)|_=>false
def y1g:List (TL S)->Bool|[.ref _,.ref _]=>true|_=>false
def y2i(P:Program)(F:Fx)(o:OSpec S)(s:TSt S):Option o.Out:=match qei P s F.fn.results.toList with|none=>none|some vs=>if y1g vs then none else if((vs.flatMap ptrsT)++((s.heap.take F.k).flatMap fun cs=>cs.flatMap ptrsT)).all (fun o=>decide (o<F.k))then if(F.fn.results.toList.all (y4y s F.k)&&decide (F.k<=s.heap.length))=true/\vs.length=o.res.length/\(s.heap.take F.k).map List.length=o.heap.map List.length then qdy o.all (vs++(s.heap.take F.k).flatten)else none else if(F.fn.results.toList.all qeh&&((vs.flatMap ptrsT)++(s.heap.flatMap fun cs=>cs.flatMap ptrsT)).all (fun o=>decide (o<s.heap.length)))=true/\vs.length=o.res.length/\s.heap.map List.length=o.heap.map List.length then qdy o.all (vs++s.heap.flatten)else none
def qus(P:Program)(F:Fx)(o:OSpec S)(s:TSt S):Option o.Out:=match F.fn.results.toList with
 |[.tmp t]=>match getT s.env t with|.fl (.own c xs false)=>if(q6w F.k s.heap&&decide (F.k<=s.heap.length))=true/\[TL.ref (S:=S) F.k].length=o.res.length/\(s.heap.take F.k++[[TL.own c xs false]]).map List.length=o.heap.map List.length then qdy o.all ([TL.ref F.k]++(s.heap.take F.k++[[TL.own c xs false]]).flatten)else none|_=>none
 |[.cell a t]=>match getT s.env a,tyAgg P t,q0p P t with
  |.fl (.ptr p 0),some true,some 1=>match cellT s.heap p 0 with|.own c xs false=>if(q6w F.k s.heap&&decide (F.k<=p)&&decide (F.k<=s.heap.length))=true/\[TL.ref (S:=S) F.k,TL.ref F.k].length=o.res.length/\(s.heap.take F.k++[[TL.own c xs false]]).map List.length=o.heap.map List.length then qdy o.all ([TL.ref F.k,TL.ref F.k]++(s.heap.take F.k++[[TL.own c xs false]]).flatten)else none|_=>none
  |_,_,_=>none
 |_=>none
def qfv(own:Bool)(P:Program)(F:Fx)(o:OSpec S)(s:TSt S):Option o.Out:=if own then qus P F o s else y2i P F o s
def qn5(keep:Bool)(k:Nat)(v:TV S)(h:THeap S):TV S×THeap S:=match v with|.fl (.ref o)=>if decide (o=k)&&q6w k h then match h.drop k with|[[.own c xs false]]=>(.fl (if keep then .own c xs false else .d (.lf (.l c xs))),h.take k)|_=>(v,h)else(v,h)|.tup [.ref o,.ref _]=>if decide (o=k)&&q6w k h then match h.drop k with|[[.own c xs false]]=>(if keep then .agg [.own c xs false]else .fl (.d (.ag [.l c xs])),h.take k)|_=>(.fl .undef,h)else(.fl .undef,h)|v=>(v,h)
def qbn(h:THeap S):List Nat->THeap S->THeap S|o::os,cs::r=>qbn (h.set o cs) os r|_,_=>h
def quq(s:TSt S)(objs:List Nat)(h':THeap S):TSt S:={env:=q8j objs s.env,heap:=qbn s.heap objs (h'.map fun cs=>cs.map (renT (q18 objs s.heap.length)))++(h'.drop objs.length).map fun cs=>cs.map (renT (q18 objs s.heap.length))}
def y1j(ρ:Nat->Nat):TV S->TV S|.tup us=>.tup (us.map (renT ρ))|.fl v=>.fl (renT ρ v)|v=>v
def yfg(T:TEn)(h:FuncId)(hs:THeap T.S):OSpec T.S:={res:=if T.E.an.own h then(match T.res h with|[_,_]=>[.ref hs.length,.ref hs.length]|_=>[.ref hs.length])else T.res h,heap:=match T.outs h with|some os=>os++T.news h|none=>hs.map (fun cs=>cs.map ydg)++T.news h}
noncomputable def callT(T:TEn)(r:Rule)(h:FuncId)(vs:List (TL T.S))(dst:Option Nat)(s:TSt T.S)(k:TSt T.S->Option β):Option β:=match reach (heapA s.heap) (s.heap.length+1) (q4u [] (vs.flatMap ptrsT))with|none=>none|some objs=>if !r.draws||objs.all (fun o=>!above r.mode o)then match qe9 s.heap objs with
   |some hs=>match callC T h (vs.map (renT (objs.idxOf ·))) (hs.map fun cs=>cs.map (renT (objs.idxOf ·))) (yfg T h (hs.map fun cs=>cs.map (renT (objs.idxOf ·))))with|some x=>if r.draws&&decide (objs.length<(qn5 r.keep objs.length (qid (resOf _ x)) (q30 _ x)).2.length)then none else k (TSt.put (quq s objs (qn5 r.keep objs.length (qid (resOf _ x)) (q30 _ x)).2) dst (y1j (q18 objs s.heap.length) (qn5 r.keep objs.length (qid (resOf _ x)) (q30 _ x)).1))|none=>none
   |none=>none else none
def q7e(s:TSt S):Operand->Option (Nat×TL S)
 |.tmp u=>match getT s.env u with
  |.fl (.own c xs false)=>some (u,.own c xs false)|.fl (.loc (.slot t))=>match getT s.env t with|.fl (.own c xs false)=>some (t,.own c xs false)|_=>none
  |_=>none
 |_=>none
def q6h(s:TSt S):Operand->Option (Nat×Nat×Nat×TL S)
 |.tmp u=>match getT s.env u with
  |.fl (.loc (.cell o off))=>match cellT s.heap o off with|.own c xs false=>some (u,o,off,.own c xs false)|_=>none
  |_=>none
 |_=>none
def qd2(s:TSt S):Operand->Bool
 |.tmp u=>match getT s.env u with|.fl (.loc (.cell _ _))=>true|_=>false
 |_=>false
def qjs(T:TEn)(s:TSt T.S)(t:TypeId)(x:Operand):Option (TL T.S×TSt T.S×List (Nat×Nat)):=match q7e s x with|some (u,v)=>some (.ref s.heap.length,{env:=putT s.env u (.fl .undef),heap:=s.heap++[[v]]},[(s.heap.length,u)])|none=>match q6h s x with|some (u,o,off,v)=>some (.ref s.heap.length,{env:=killT s.env,heap:=qbv s.heap o off .undef++[[v]]},[(s.heap.length,u)])|none=>match argT T s t x with|some v=>some (v,s,[])|none=>none
def q6i(T:TEn)(s:TSt T.S):List TypeId->List Operand->Option (List (TL T.S)×TSt T.S×List (Nat×Nat))|_,[]=>some ([],s,[])|ts,x::r=>match qjs T s (ts.headD 0) x with
  |some (v,s1,l)=>match q6i T s1 ts.tail r with|some (vs,s2,l')=>some (v::vs,s2,l++l')|none=>none
  |none=>none
def qbq(s:TSt S)(l:List Operand):Bool:=l.any fun x=>(q7e s x).isSome||qd2 s x
def qvs(o:Nat):TV S->Bool|.fl (.ref o')=>o'==o|_=>false
def quh(dst:Option Nat)(o t:Nat)(s:TSt S):Option Nat:=match dst with|some d=>if qvs o (getT s.env d)then some d else if d=t then none else some t|none=>some t
def qdc(dst:Option Nat)(o t:Nat)(s:TSt S):Option (TSt S):=match s.heap[o]?,quh dst o t s with|some [.own c xs false],some d=>if s.heap.length=o+1/\q6w o s.heap=true then some {env:=putT (dropT o (killT s.env)) d (.fl (.own c xs false)),heap:=s.heap.take o}else none|some [.undef],_=>if s.heap.length=o+1/\q6w o s.heap=true then some {env:=dropT o s.env,heap:=s.heap.take o}else none|_,_=>none
def qc2(dst:Option Nat):List (Nat×Nat)->TSt S->Option (TSt S)|[],s=>some s|(o,t)::r,s=>match qc2 dst r s with|some s1=>qdc dst o t s1|none=>none
noncomputable def doOpT(T:TEn)(F:Fx)(r:Rule)(ops:Array Oper)(o:Oper)(s:TSt T.S)(k:TSt T.S->Option β):Option β:=match o.op with
 |.store t a x=>if o.dst.isNone&&qc3 T.E (qat r ops o) s.toS a then y48 T t a x s k else none|.call {callee:=.value g,args,argTypes}=>if qbq s args.toList then if r.draws then none else match evT T s 0 g,q6i T s argTypes.toList args.toList with
   |.fl (.fn h caps),some (vs,s1,l)=>callT T (q5r T.E.an F.f r o) h (vs++caps.map fun(o,a)=>.ptr o a) o.dst s1 fun s2=>match qc2 o.dst l s2 with|some s3=>k s3|none=>none
   |_,_=>none else match evT T s 0 g,argsT T s argTypes.toList args.toList with|.fl (.fn h caps),some vs=>callT T (q5r T.E.an F.f r o) h (vs++caps.map fun(o,a)=>.ptr o a) o.dst s k|_,_=>none
 |op=>if q5j T.E (q90 r ops o) s.toS op then stepT T (T.E.an.flag F.f (o.dst.getD 0)) (r.draws&&!q4t ops op) o.type op s fun v s1=>match keepT (T.E.an.flag F.f (o.dst.getD 0)) v with|some w=>k ((s1.del (q84 op)).put o.dst w)|none=>none else none
noncomputable def opT(T:TEn)(F:Fx)(r:Rule)(ops:Array Oper)(o:Oper)(s:TSt T.S)(k:TSt T.S->Option β):Option β:=match o.guard with|none=>doOpT T F r ops o s k|some (j,want)=>match(ops[j]?).bind (·.dst)with|none=>none|some t=>match getT s.env t with
   |.fl (.d (.lf (.b b)))=>match b with|true=>if want then doOpT T F r ops o {s with env:=replT s.env t (.fl (.d (.lf (.b true))))} k else k (TSt.put {s with env:=replT s.env t (.fl (.d (.lf (.b true))))} o.dst (.fl .skipped))|false=>if want then k (TSt.put {s with env:=replT s.env t (.fl (.d (.lf (.b false))))} o.dst (.fl .skipped))else doOpT T F r ops o {s with env:=replT s.env t (.fl (.d (.lf (.b false))))} k
   |.fl .skipped=>k (s.put o.dst (.fl .skipped))|_=>none
noncomputable def opsT(T:TEn)(F:Fx)(r:Rule)(ops:Array Oper):List Oper->TSt T.S->(TSt T.S->Option β)->Option β|[],s,k=>k s|o::rest,s,k=>opT T F r ops o s fun s1=>opsT T F r ops rest s1 k
def takeT(T:TEn)(F:Fx)(o:Oper)(s:TSt T.S):Option (TSt T.S):=match o.op,o.guard,o.dst with
 |.load t (.tmp r),none,some d=>if T.E.an.flag F.f d=.keep then match tyAgg T.E.P t,q0p T.E.P t,getT s.env r with
   |some true,some 1,.fl (.ptr p off)=>match cellT s.heap p off with|.own c xs false=>some ((q8i s (.cell p off) .undef).put (some d) (.agg [.own c xs false]))|_=>none
   |_,_,_=>none else none|.move (.tmp r),none,some d=>if T.E.an.own F.f&&T.E.an.flag F.f d=.keep then match getT s.env r with|.fl (.own c xs false)=>some ((q8i s (.slot r) .undef).put (some d) (.fl (.own c xs false)))|_=>none else none|_,_,_=>none
def headT(T:TEn)(F:Fx)(ops:Array Oper)(s:TSt T.S):List Oper×TSt T.S:=match ops.toList with|[]=>([],s)|o::l=>match takeT T F o s with|some s1=>(l,s1)|none=>(o::l,s)
def yag:Code->Option Nat|.region id _ _=>some id|.seq a _=>yag a|_=>none
def cutAt(T:TEn)(f:FuncId)(c:Code):Bool:=match yag c with|some id=>T.cut f id|none=>false
def replO(s:TSt S)(x:Operand)(v:TV S):TSt S:=match x with|.tmp t=>{s with env:=replT s.env t v}|_=>s
open Classical in
mutual
noncomputable def te(T:TEn)(F:Fx)(o:OSpec T.S):Nat->Code->List Fr->TSt T.S->Option o.Out|0,c,K,s=>goC T F o c K s|n+1,c,K,s=>match c with
  |.skip=>teK T F o n .normal K s|.label _=>teK T F o n .normal K s|.region id ops draw=>match draw with
   |true=>match T.E.an.order F.f id with|[l]=>if qhg T.E.an F.f ops s.toS=false then none else opsT T F {draws:=true,mode:=T.E.an.mode F.f id} ops (q20 ops l) s fun s1=>teK T F o n .normal K {s1 with env:=qpo s1.env (T.E.an.clear F.f id)}|_=>none
   |false=>opsT T F {draws:=false,mode:=T.E.an.mode F.f id} ops (headT T F ops s).1 (headT T F ops s).2 fun s1=>teK T F o n .normal K {s1 with env:=qpo s1.env (T.E.an.clear F.f id)}
  |.seq a b=>te T F o n a (.seq b::K) s|.cond x a b=>match evT T s 0 x with
   |.fl (.d (.lf (.b t)))=>match t with|true=>te T F o n a K (replO s x (.fl (.d (.lf (.b true)))))|false=>te T F o n b K (replO s x (.fl (.d (.lf (.b false)))))
   |_=>none
  |.block id b=>te T F o n b (.block id s.heap.length::K) s|.loop b=>goC T F o (.loop b) K s|.exit id=>teK T F o n (.exit id) K s|.ret=>qfv (T.E.an.own F.f) T.E.P F o s|_=>none
termination_by structural n=>n
noncomputable def teK(T:TEn)(F:Fx)(o:OSpec T.S):Nat->Ex->List Fr->TSt T.S->Option o.Out|0,_,_,_=>none|n+1,ex,K,s=>match ex,K with|.ret,_=>qfv (T.E.an.own F.f) T.E.P F o s|.normal,[]=>qfv (T.E.an.own F.f) T.E.P F o s|.normal,.seq b::K=>if cutAt T F.f b then goC T F o b K s else te T F o n b K s|.normal,.block _ m::K=>teK T F o n .normal K (trimT m s)|.normal,.loop b m::K=>goC T F o (.loop b) K (qj4 F.k m s)|.exit id,.seq _::K=>teK T F o n (.exit id) K s|.exit id,.block id' m::K=>if id=id' then teK T F o n .normal K (trimT m s)else teK T F o n (.exit id) K s|.exit id,.loop _ _::K=>teK T F o n (.exit id) K s|.exit _,[]=>none
termination_by structural n=>n
end
end Go.Ab

namespace Go.Ab
variable {v : Value} {fl : Flag} {t : TypeId} {x : Operand}
variable {S : Sig} {β : Type}
theorem qh1(x:Leaf S.TC S.Ty):(leafD x).isAgg=false:=by cases x<;>rfl
theorem qut(x:Leaf S.TC S.Ty):(leafD x).cells=[leafD x]:=by cases x<;>rfl
theorem q2v(e:TEnv S)(t:Nat):get (envA e) t=(getT e t).toA:=by induction e with|nil=>rfl|cons p r ih=>obtain⟨k,v⟩:=p;simp only[envA,List.map_cons,get,getT]at ih⊢;grind
theorem qjm(e:TEnv S)(t:Nat)(v:TV S):setE (envA e) t v.toA=envA (setT e t v):=by induction e with|nil=>rfl|cons p r ih=>obtain⟨k,u⟩:=p;simp only[envA,List.map_cons,setE,setT]at ih⊢;grind
theorem q5k(e:TEnv S)(t:Nat):q72 (envA e) t=envA (qb5 e t):=by induction e with|nil=>rfl|cons p r ih=>obtain⟨k,u⟩:=p;simp only[envA,List.map_cons,q72,qb5]at ih⊢;grind
theorem qjt(l:List Nat):∀(e:TEnv S),q81 (envA e) l=envA (qpo e l):=by induction l with|nil=>intro e;rfl|cons t r ih=>intro e;simp only[q81,qpo,q5k,ih]
theorem qng(v:TV S):v.toA.placed=v.placed:=by cases v with|fl x=>cases x<;>rfl|_=>rfl
theorem qea(v:TV S):v.toA.isOwn=v.isOwn:=by cases v with|fl x=>cases x<;>rfl|_=>rfl
theorem y0n(v:TL S):v.toA.isOwn=v.isOwn:=by cases v<;>rfl
theorem qet(e:TEnv S):q0x (envA e)=envA (killT e):=by induction e with|nil=>rfl|cons p r ih=>
  obtain⟨k,u⟩:=p;simp only[envA,List.map_cons,q0x,killT,qng]at ih⊢;split;·rw[ih];exact q5k _ _
  simp_all
theorem y6x(objs:List Nat)(v:TV S):hits objs v.toA=hitsT objs v:=by simp only[hits,hitsT,qng];congr 1;cases v with
 |fl x=>cases x with|loc p=>cases p<;>rfl|elt p i off=>cases p<;>rfl|seg p i off=>cases p<;>rfl|_=>rfl
 |_=>rfl
theorem qh7(objs:List Nat)(e:TEnv S):q1g objs (envA e)=envA (q8j objs e):=by induction e with|nil=>rfl|cons p r ih=>
  obtain⟨k,u⟩:=p;simp only[envA,List.map_cons,q1g,q8j,y6x]at ih⊢;split;·rw[ih];exact q5k _ _
  simp_all
theorem qyu(t:Nat)(v:TV S):v.toA.sitsAt t=v.sitsAt t:=by cases v with
 |fl x=>cases x with|loc p=>cases p<;>rfl|elt p i off=>cases p<;>rfl|seg p i off=>cases p<;>rfl|_=>rfl
 |_=>rfl
theorem qdf(t:Nat)(e:TEnv S):q9y t (envA e)=envA (q8w t e):=by induction e with|nil=>rfl|cons p r ih=>
  obtain⟨k,u⟩:=p;simp only[envA,List.map_cons,q9y,q8w,qyu]at ih⊢;split;·rw[ih];exact q5k _ _
  simp_all
theorem qqk:∀{e:TEnv S}{t:Nat}{v:TV S},getT e t=v->replT e t v=e
 |[],_,_,_=>rfl|(k,u)::r,t,v,h=>by
  simp only[getT]at h;simp only[replT];split;·simp_all
  .rename_i hk;rw[if_neg hk]at h;rw[qqk h]
theorem qba(e:TEnv S)(t:Nat)(v:TV S):putE (envA e) t v.toA=envA (putT e t v):=by
 have key:setE (if(get (envA e) t).isOwn then q9y t (envA e)else envA e) t v.toA=envA (setT (if(getT e t).isOwn then q8w t e else e) t v):=by rw[q2v,qea,qdf];split<;>exact qjm _ _ _
 have key2:q72 (if(get (envA e) t).isOwn then q9y t (envA e)else envA e) t=envA (qb5 (if(getT e t).isOwn then q8w t e else e) t):=by rw[q2v,qea,qdf];split<;>exact q5k _ _
 cases v with
 |fl x=>cases x with|undef=>exact key2|own c xs l=>simp only[TV.toA,TL.toA,putE,putT,qdf];exact qjm _ _ (.fl (.own c xs l))|_=>exact key
 |agg cs=>exact key|tup vs=>exact key
theorem qcx(s:TSt S)(dst:Option Nat)(v:TV S):s.toS.put dst v.toA=(s.put dst v).toS:=by cases dst with|none=>rfl|some t=>simp only[St.put,TSt.put,TSt.toS,qba]
theorem qu9(l:List Nat):∀(s:TSt S),s.toS.del l=(s.del l).toS:=by induction l with|nil=>intro s;rfl|cons t r ih=>
  intro s;simp only[St.del,TSt.del];have:({s.toS with env:=putE s.toS.env t .undef}:St)=({s with env:=putT s.env t (.fl .undef)}:TSt S).toS:=by simp only[TSt.toS];rw[show AV.undef=(TV.fl (.undef:TL S)).toA from rfl,qba]
  simp_all
theorem qdo{c:Option S.TC}{x:TL S}(h:qdi c v=some x):q0k v=x.toA:=by
 unfold qdi at h;split at h;·cases c with|none=>cases h|some c=>cases h;rfl
 all_goals first|cases h|skip
 all_goals first|rfl|skip
 rename_i h1 h2 h3 h4 h5 h6 h7 h8 h9 h10 h11 h12;unfold q0k;split;·simp_all
 all_goals first|rfl|skip
 all_goals grind
theorem qct{vs:List Value}:∀{cs:List (Option S.TC)}{xs:List (TL S)},qdj cs vs=some xs->vs.map q0k=xs.map TL.toA:=by induction vs with|nil=>intro cs xs h;simp only[qdj,sI]at h;simp_all|cons v r ih=>
  intro cs xs h;simp only[qdj]at h;split at h;·rename_i x ys h1 h2;cases h;simp only[List.map_cons,qdo h1,ih h2]
  grind
theorem qd3{cs:List (Option S.TC)}(h:qfq cs v≠.fl .undef):q16 v=(qfq cs v).toA:=by
 unfold qfq at h⊢;split at h
 .split at h;·rename_i xs hx;simp only[q16,TV.toA,qct hx]
  simp_all
 .rename_i hna;split at h
  .rename_i x hx;have:q16 v=q0k v:=by cases v<;>first|rfl|exact absurd rfl (hna _)
   simp only[this,TV.toA,qdo hx]
  simp_all
theorem qlh{cs:List (Option S.TC)}{xs:List (TL S)}(h:qc0 cs v=some xs):(q16 v).cells=xs.map TL.toA:=by
 unfold qc0 at h;split at h;·simp only[q16,AV.cells,qct h]
 .rename_i hna;split at h
  .rename_i x hx;cases h;have:q16 v=q0k v:=by cases v<;>first|rfl|exact absurd rfl (hna _)
   rw[this,qdo hx];have:∀y:TL S,qdi (cs.headD none) v=some y->y.toA.cells=[y.toA]:=by
    intro y hy;unfold qdi at hy;split at hy
    .split at hy;·cases hy;rfl
     .cases hy
    all_goals first|cases hy;rfl|cases hy
   rw[this x hx];rfl
  grind
theorem qso(v:TV S)(h:q6b v=some v):v.toA.cells=v.cells.map TL.toA:=by cases v with
 |fl x=>cases x with
  |d y=>cases y with|lf z=>cases z<;>rfl|ag cs=>simp[TV.toA,TL.toA,PD.toD,AV.cells,TV.cells,List.map_map,Function.comp_def]
  |_=>rfl
 |agg cs=>rfl|tup vs=>cases h
theorem qty{x:TL S}{y:Leaf S.TC S.Ty}(h:qod x=some y):q0f x.toA=some (leafD y):=by unfold qod at h;split at h<;>first|cases h;rfl|cases h
theorem q3y:∀{l:List (TL S)}{ds:List (Leaf S.TC S.Ty)},q4r l=some ds->q12 (l.map TL.toA)=some (ds.map leafD)
 |[],ds,h=>by simp only[q4r,sI]at h;subst h;rfl|c::r,ds,h=>by
  simp only[q4r]at h;split at h;·rename_i x xs h1 h2;cases h;simp only[List.map_cons,q12,qty h1,q3y h2]
  grind
theorem qd9{v:TV S}{p:PD S}(h:qjf v=some p):q4n v.toA=some p.toD:=by
 unfold qjf at h;split at h
 .split at h;·rename_i ds hd;cases h;simp only[TV.toA,q4n,q3y hd,mS,PD.toD]
  .cases h
 .cases h;rename_i x;cases p with|lf z=>cases z<;>rfl|ag cs=>rfl
 .cases h;rfl
 grind
theorem qdh:∀(l:List (TL S)),q5i (l.map TL.toA)=qes l|[]=>rfl|c::r=>by cases c<;>simp[q5i,qes,TL.toA,qdh r]
theorem qeq:∀{l:List (TL S)},q4r l=none->l.all TL.noAg=true->q12 (l.map TL.toA)=none|[],h,_=>by cases h|c::r,h,ha=>by simp only[List.all_cons,aT]at ha;simp only[List.map_cons,q12];cases hc:qod c with
  |none=>
   have:q0f c.toA=none:=by cases c with
    |d x=>cases x with|lf y=>cases hc|ag cs=>cases ha.1
    |own _ _ _=>cases hc|_=>rfl
   grind|some x=>cases hr:q4r r with|none=>rw[qeq hr ha.2];cases q0f c.toA<;>rfl|some xs=>simp[q4r,hc,hr]at h
theorem y44{v w:TV S}(h:keepT fl v=some w):q5d fl v.toA=w.toA:=by
 unfold keepT at h;split at h;·cases h;rfl
 .rename_i cs;simp only[TV.toA,q5d];split at h;·rename_i ds hd;cases h;rw[q3y hd];rfl
  .rename_i hd;split at h;·rename_i ha;cases h;rw[qeq hd ha]
   grind
 .rename_i h1 h2;cases h;cases fl with|keep=>rfl|view=>cases v with
   |fl x=>cases x<;>first|rfl|grind|(exfalso;simp_all;done)
   |agg cs=>simp_all|tup vs=>rfl
theorem q4y(h:THeap S)(o off:Nat):q0u (heapA h) o off=(cellT h o off).toA:=by simp only[q0u,cellT,heapA,List.getElem?_map];cases h[o]? with|none=>rfl|some cs=>simp only[mS,List.getElem?_map];cases cs[off]?<;>rfl
theorem qcr(h:THeap S)(o off:Nat)(v:TL S):q1a (heapA h) o off v.toA=heapA (qbv h o off v):=by simp only[q1a,qbv,heapA,List.getElem?_map];cases h[o]? with|none=>rfl|some cs=>simp
theorem q1q(s:TSt S)(p:Place):content s.toS p=(q2k s p).toA:=by cases p with|slot t=>exact q2v _ _|cell o off=>exact q4y _ _ _
theorem qb0(s:TSt S)(p:Place)(v:TL S):setPlace s.toS p v.toA=(q8i s p v).toS:=by cases p with|slot t=>simp only[setPlace,q8i,TSt.toS];rw[<-qba];rfl|cell o off=>simp only[setPlace,q8i,TSt.toS,qet,qcr]
theorem q66(s:TSt S)(p:Place)(v:TL S):lendPlace s.toS p v.toA=(q5h s p v).toS:=by cases p with|slot t=>simp only[lendPlace,q5h,TSt.toS];rw[<-qjm];rfl|cell o off=>simp only[lendPlace,q5h,TSt.toS,qcr]
theorem qgz:∀(n:Nat)(s:TSt S)(o off:Nat),lendFrom s.toS o off n=(qdu s o off n).toS|0,_,_,_=>rfl|n+1,s,o,off=>by simp only[lendFrom,qdu];rw[show q0u s.toS.heap o off=(cellT s.heap o off).toA from q4y _ _ _];rw[<-qgz n];cases cellT s.heap o off with
  |own c xs l=>cases l with|false=>exact congrArg (fun z=>lendFrom z o (off+1) n) (q66 s (.cell o off) (.own c xs true))|true=>rfl
  |_=>rfl
variable {T : TEn}
theorem q60{s:TSt T.S}(h:evT T s t x≠.fl .undef):ev T.E s.toS x=(evT T s t x).toA:=by cases x with|tmp u=>exact q2v _ _|const v=>exact qd3 h|global g=>exact absurd rfl h|func f=>rfl
theorem qyt{v:TV S}{p:PD S}(h:y1d v=some p):v=.fl (.d p):=by unfold y1d at h;grind
theorem q3o{s:TSt T.S}{v:TV T.S}(h:evT T s t x=v)(hv:v≠.fl .undef):ev T.E s.toS x=v.toA:=by subst h;exact q60 hv
theorem q0q{s:TSt T.S}{p:PD T.S}(h:q2e T s t x=some p):plainC T.E s.toS x=some p.toD:=by cases x with|const v=>simp only[q2e]at h;simp only[plainC];rw[qd3 (by intro hh;rw[hh]at h;cases h)];exact qd9 h|_=>simp only[q2e]at h;have:=qyt h;simp only[plainC];rw[q3o this (by simp)];rfl
theorem qhy {s : TSt T.S} {t : TypeId} : ∀ {l : List Operand} {ps : List (PD T.S)}, qdw T s t l = some ps -> plainsC T.E s.toS l = some (ps.map PD.toD)
 | [], ps, h => by simp only [qdw, sI] at h; subst h; rfl
 | x :: r, ps, h => by
  simp only [qdw] at h;split at h
  .rename_i a as h1 h2;cases h;simp only [plainsC, q0q h1, qhy h2, List.map_cons]
  grind
theorem qav {v w : TV S} (h : q6b v = some w) : w = v /\ q3l v.toA = some v.toA /\ v ≠ .fl .undef := by
 cases v with
 | fl x => cases x with
  | d y => cases h; exact ⟨rfl, rfl, by simp⟩
  | _ => first | (cases h; done) | (cases h; exact ⟨rfl, rfl, by simp⟩)
 | agg cs => cases h; exact ⟨rfl, rfl, by simp⟩
 | tup vs => cases h
theorem ql0{v w:TV S}(h:y5h v=some w):w=v/\y1k v.toA=some v.toA/\v≠.fl .undef:=by cases v with
 |fl x=>cases x with|d y=>cases h;exact⟨rfl,rfl,by simp⟩|_=>first|(cases h;done)|(cases h;exact⟨rfl,rfl,by simp⟩)
 |agg cs=>cases h;exact⟨rfl,rfl,by simp⟩|tup vs=>cases h
theorem qcn{q:Bool}{s s1:TSt S}{p:Place}{v:TV S}(h:qbs fl q s p=some (v,s1)):readPlace fl q s.toS p=some (v.toA,s1.toS):=by
 unfold qbs at h;unfold readPlace;rw[q1q];split at h;·rename_i c xs l hc;rw[hc];cases fl with|keep=>simp only[sI,pI]at h;obtain⟨rfl,rfl⟩:=h;rfl|view=>
   simp only[TV.toA,TL.toA];simp only at h;split at h;·rename_i hl;cases h;rw[if_pos hl];rfl
   .rename_i hl;rw[if_neg hl];split at h;·cases h
    .rename_i hq;cases h;rw[if_neg hq];simp only[sI,pI];exact⟨rfl,q66 s p (.own c xs true)⟩
 all_goals first|(cases h;done)|skip
 rename_i h1 h2 h3 h4 h6;cases h;generalize q2k s p=w at*;cases w with
 |fl x=>cases x<;>first|rfl|grind|simp_all
 |agg cs=>simp_all|tup vs=>rfl
end Go.Ab

namespace Go.Ab
variable {t : TypeId} {n : Int}
variable {S : Sig} {β : Type} {T : TEn} {P : Program}
theorem q70(hS:S.Ok P)(c:S.TC)(x:S.Ty c):(S.enc c x).cells=(S.cells c x).map leafD:=by rw[hS.enc_eq];have hl:=hS.len c x;have hp:=hS.pos c;unfold packT;cases hg:S.agg c with|true=>rfl|false=>have h1:=hS.one c hg;match hcs:S.cells c x,hl with|[],hl=>rfl|[y],_=>simp only[fT,if_false,PD.toD,qut,List.map_cons,List.map_nil]|y::z::r,hl=>simp_all
theorem y2s(hS:S.Ok P)(c:S.TC)(x:S.Ty c):(S.enc c x).isAgg=S.agg c:=by rw[hS.enc_eq];have hl:=hS.len c x;have hp:=hS.pos c;unfold packT;cases hg:S.agg c with|true=>rfl|false=>match hcs:S.cells c x,hl with|[],hl=>simp_all|y::r,_=>simp only[fT,if_false,PD.toD,qh1]
theorem qyp(hS:S.Ok P)(c:S.TC)(x:S.Ty c):qw3 (S.agg c) (S.size c) (S.enc c x)=true:=by simp only[qw3,q70 hS,y2s hS,List.length_map,hS.len,beq_self_eq_true,decide_eq_true (hS.pos c),tA',List.all_map,Function.comp_def,qh1,Bool.not_false,List.all_eq_true,implies_true]
theorem q3g(hS:S.Ok P){e:TypeId}{c:S.TC}(h1:S.elem t=some c)(h2:q2m P t=some e)(xs:List (S.Ty c)):q3z P e (xs.map (S.enc c))=true:=by obtain⟨e',h3,h4,h5⟩:=hS.elem t c h1;rw[h2]at h3;cases h3;simp only[q3z,h4,h5,List.all_map,List.all_eq_true,Function.comp_def];intro x _;exact qyp hS c x
theorem qoq(hS:S.Ok P){c:S.TC}{p:PD S}{x:S.Ty c}(h:ofPD c p=some x):p.toD=S.enc c x:=by rw[hS.enc_eq];cases p with
 |lf y=>
  simp only[ofPD]at h;split at h;·cases h
  .rename_i hg;have h1:=hS.of_eq c _ _ h;simp only[packT,hg];match hcs:S.cells c x,h1 with|[z],h1=>simp only[List.map_cons,List.map_nil,List.cons.injEq,and_true]at h1;exact h1.symm|[],h1=>grind|_::_::_,h1=>simp_all
 |ag cs=>
  simp only[ofPD]at h;split at h;·rename_i hg;have h1:=hS.of_eq c _ _ h;simp only[packT,hg,if_true,PD.toD,h1]
  grind
theorem qr5(hS:S.Ok P){c:S.TC}:∀{ps:List (PD S)}{xs:List (S.Ty c)},ofPDs c ps=some xs->ps.map PD.toD=xs.map (S.enc c)
 |[],xs,h=>by simp only[ofPDs,sI]at h;simp_all|p::r,xs,h=>by
  simp only[ofPDs]at h;split at h;·rename_i y ys h1 h2;cases h;simp only[List.map_cons,qoq hS h1,qr5 hS h2]
  grind
theorem q74{c:S.TC}{x:Leaf S.TC S.Ty}{xs:List (S.Ty c)}(h:qaz c x=some xs):x=.l c xs:=by cases x with|l c' ys=>simp only[qaz]at h;grind|_=>cases h
theorem qij{α:Type}{xs:List α}{k:α->Option β}{r:β}(h:nth xs n k=some r):0<=n/\∃x,xs[n.toNat]?=some x/\k x=some r:=by unfold nth at h;grind
theorem qel{α:Type}{xs:List α}{n:Nat}{k:α->Option β}{r:β}(h:nthN xs n k=some r):∃x,xs[n]?=some x/\k x=some r:=by unfold nthN at h;grind
theorem qma{n:Nat}{k:Option β}{r:β}(h:capOk n k=some r):n<=q07/\k=some r:=by unfold capOk at h;simp_all
theorem qpa{len:Nat}{k:Nat->Option β}{r:β}(h:hiK len n k=some r):(0<=n/\n<=(len:Int))/\k n.toNat=some r:=by unfold hiK at h;simp_all
theorem q67{p:Prop} [Decidable p]{k:Option β}{r:β}(h:chk p k=some r):p/\k=some r:=by unfold chk at h;simp_all
theorem qh0(hS:S.Ok P){s:TSt S}{p:Place}{c:S.TC}{xs:List (S.Ty c)}{l:Bool}(hc:q2k s p=.fl (.own c xs l)){i off:Nat}{x:S.Ty c}(hx:xs[i]?=some x):q4s s.toS p i off=some (((S.cells c x).drop off).map leafD):=by simp only[q4s,q1q,hc,TV.toA,TL.toA,List.getElem?_map,hx,mS,q70 hS,List.map_drop]
theorem qih(h:THeap S)(o:Nat):(heapA h)[o]?=(h[o]?).map (·.map TL.toA):=by simp[heapA]
def Does(A:Option (AV×St))(k:TV S->TSt S->Option β)(x:β):Prop:=∃v s1,A=some (v.toA,TSt.toS s1)/\k v s1=some x
theorem qyk(hS:T.S.Ok T.E.P){fl:Flag}{q:Bool}{a:TV T.S}{s:TSt T.S}{k:TV T.S->TSt T.S->Option β}{x:β}(h:loadT T fl q t a s k=some x):Does (q4i T.E fl q t a.toA s.toS) k x:=by
 unfold loadT at h;unfold q4i;split at h
 .rename_i hg;rw[hg];split at h
  .rename_i o off;split at h;·rename_i v s1 hr;exact⟨v,s1,qcn hr,h⟩
   .cases h
  .exact⟨_,_,rfl,h⟩
  .rename_i p i off;split at h
   .rename_i c xs l hc;obtain⟨y,hy,hk⟩:=qel h;split at hk;·rename_i z zs hz;refine⟨_,_,?_,hk⟩;simp only[TV.toA,TL.toA,qh0 hS hc hy,hz,List.map_cons,PD.toD]
    .cases hk
   .cases h
  .cases h
 .rename_i n hg hn;rw[hg,hn];split at h
  .rename_i o off;split at h
   .rename_i cs hcs;split at h
    .rename_i hle;split at h
     .rename_i ds hds;have h1:s.toS.heap[o]?=some (cs.map TL.toA):=by rw[show s.toS.heap=heapA s.heap from rfl,qih,hcs];rfl
      have h2:((cs.map TL.toA).drop off).take n=((cs.drop off).take n).map TL.toA:=by simp[List.map_take,List.map_drop]
      split at h;·rename_i hl;refine⟨_,_,?_,h⟩;simp only[TV.toA,TL.toA,h1,List.length_map,hle,if_true,h2,q3y hds,qdh,hl];rfl
      .rename_i hl;split at h;·cases h
       .rename_i hq;refine⟨_,_,?_,h⟩;simp only[TV.toA,TL.toA,h1,List.length_map,hle,if_true,h2,q3y hds,qdh,hl,hq,qgz];rfl
     .cases h
    .cases h
   .cases h
  .rename_i cs;split at h;·rename_i hle;refine⟨_,_,?_,h⟩;simp only[TV.toA,TL.toA,List.length_map,hle,if_true,PD.toD,List.map_take]
   .cases h
  .rename_i p i off;split at h
   .rename_i c xs l hc;obtain⟨y,hy,hk⟩:=qel h;split at hk;·rename_i hle;refine⟨_,_,?_,hk⟩;simp only[TV.toA,TL.toA,qh0 hS hc hy,List.length_map,hle,if_true,PD.toD,List.map_take]
    .cases hk
   .cases h
  .cases h
 grind
def Puts(A:Option St)(k:TSt S->Option β)(x:β):Prop:=∃s1,A=some (TSt.toS s1)/\k s1=some x
theorem yd2(l:List (TL S)):(l.map TL.toA).any AV.isOwn=l.any TL.isOwn:=by induction l with|nil=>rfl|cons a r ih=>simp only[List.map_cons,List.any_cons,ih,y0n]
theorem qhz(hS:T.S.Ok T.E.P){a:TV T.S}{vs:List (TL T.S)}{s:TSt T.S}{k:TSt T.S->Option β}{x:β}(h:qcy a vs s k=some x):Puts (q2h a.toA (vs.map TL.toA) s.toS) k x:=by
 unfold qcy at h;unfold q2h;split at h
 .rename_i o off;split at h
  .rename_i cs hcs;have h1:s.toS.heap[o]?=some (cs.map TL.toA):=by rw[show s.toS.heap=heapA s.heap from rfl,qih,hcs];rfl
   split at h
   .rename_i hle;refine⟨_,?_,h⟩;simp only[TV.toA,TL.toA,h1,List.length_map,hle,if_true,sI];have h2:((cs.map TL.toA).drop off).take vs.length++vs.map TL.toA=(((cs.drop off).take vs.length)++vs).map TL.toA:=by simp[List.map_take,List.map_drop]
    rw[h2,yd2];simp only[TSt.toS,St.mk.injEq];constructor
    .split;·exact qh7 _ _
     .rfl
    .simp[heapA,List.map_set,List.map_take,List.map_drop]
   .cases h
  .cases h
 .rename_i p i off;split at h
  .rename_i c xs ds hc hds;obtain⟨y,hy,hk⟩:=qel h;split at hk
   .rename_i hle;split at hk
    .rename_i z hz;refine⟨_,?_,hk⟩;simp only[TV.toA,TL.toA,q1q,hc,q3y hds,List.getElem?_map,hy,mS,q70 hS,List.length_map,hle,and_self,if_true,sI];have h3:=hS.of_eq c _ _ hz;have h4:q6q (T.S.enc c y) off (ds.map leafD)=T.S.enc c z:=by rw[hS.enc_eq c y,hS.enc_eq c z];unfold packT;have hly:=hS.len c y;have hlz:=hS.len c z;cases hg:T.S.agg c with|true=>simp only[if_true,PD.toD,q6q,h3,List.map_append,List.map_take,List.map_drop,List.length_map]|false=>have h1:=hS.one c hg;simp only[fT,if_false];match hcs:T.S.cells c y,hcz:T.S.cells c z,ds,hle with
       |[u],[w],[d],hle=>
        rw[hcs]at h3;simp only[List.length_cons,List.length_nil]at hle;obtain rfl:off=0:=by omega
        rw[hcz]at h3;simp only[List.take_zero,List.nil_append,List.drop_succ_cons,List.drop_zero,List.length_cons,List.length_nil,Nat.zero_add,List.cons_append,List.map_cons,List.map_nil,List.cons.injEq,and_true]at h3;simp only[PD.toD,List.map_cons,List.map_nil];have:q6q (leafD u) 0 [leafD d]=leafD d:=by cases u<;>rfl
        rw[this,h3]|[],_,_,_=>simp only[hcs,List.length_nil]at hly;omega|_::_::_,_,_,_=>simp only[hcs,List.length_cons]at hly;omega|[_],[],_,_=>simp only[hcz,List.length_nil]at hlz;omega|[_],_::_::_,_,_=>simp only[hcz,List.length_cons]at hlz;omega|[_],[_],[],hle=>simp at hle|[_],[_],_::_::_,hle=>simp only[List.length_cons,List.length_nil]at hle;omega
     rw[h4,<-q66];simp only[TL.toA,List.map_set]
    .cases hk
   .cases hk
  .cases h
 grind
theorem qyl(v:TL S):qq7 v.toA=y19 v:=by cases v with
 |d x=>cases x with|lf y=>cases y<;>rfl|ag cs=>rfl
 |_=>rfl
theorem qvh(hS:T.S.Ok T.E.P){a y:Operand}{s:TSt T.S}{k:TSt T.S->Option β}{x:β}(h:y48 T t a y s k=some x):Puts (q6t T.E t a y s.toS) k x:=by
 unfold y48 at h;unfold q6t;split at h
 .rename_i v g n hv hg hn;obtain⟨rfl,hm,hne⟩:=qav hv;rw[q60 hne,hm,hg,hn];split at h
  .rename_i hc;have h1:ev T.E s.toS a=(evT T s t a).toA:=by refine q60 fun e=>?_;rw[e]at h;cases h
   rw[h1];have hcells:=qso (evT T s t y) hv;have h2:((evT T s t y).toA.cells.length=n/\(evT T s t y).toA.cells.all qq7=true):=by rw[hcells];refine⟨by simpa using hc.1,?_⟩;simpa[List.all_map,Function.comp_def,qyl]using hc.2
   simp only[h2,and_self,if_true];rw[qu9,hcells];exact qhz hS h
  .cases h
 grind
end Go.Ab

namespace Go.Ab
variable {t u : TypeId} {n : Int} {y z : Operand} {hi lo mx : Option Operand} {r : Bool}
variable {S : Sig} {β : Type} {T : TEn} {P : Program}
theorem qzb{P:Program}{op:BinOp}{x y:Leaf S.TC S.Ty}{k:LfK S β}{r:β}(h:binT' P op t x y k=some r):∃u v z,leafD x=.v u/\leafD y=.v v/\∃w,binT P op t u v=some w/\leafD z=.v w/\k z=some r:=by
 unfold binT' at h;split at h
 .rename_i κ a κ' b;refine⟨.int κ a,.int κ' b,?_⟩;split at h;·obtain⟨hp,hk⟩:=q67 h;exact⟨_,rfl,rfl,_,by simp only[binT,binV,Int.not_lt.2 hp,if_false];rfl,rfl,hk⟩
  .obtain⟨hp,hk⟩:=q67 h;exact⟨_,rfl,rfl,_,by simp only[binT,binV,Int.not_lt.2 hp,if_false];rfl,rfl,hk⟩
  all_goals(
   split at h;·rename_i hκ;subst hκ;first|exact⟨_,rfl,rfl,_,by simp only[binT,binV,if_true];rfl,rfl,h⟩|(obtain⟨hp,hk⟩:=q67 h;exact⟨_,rfl,rfl,_,by simp only[binT,binV,true_and,hp,not_false_eq_true,ne_eq,if_true];rfl,rfl,hk⟩)
   .cases h)
 .rename_i a b;refine⟨.string ⟨⟨a⟩⟩,.string ⟨⟨b⟩⟩,?_⟩;split at h;·obtain⟨hp,hk⟩:=q67 h;exact⟨_,rfl,rfl,_,by simp only[binT,binV,hp,if_true],rfl,hk⟩
  all_goals first|(cases h;done)|exact⟨_,rfl,rfl,_,by simp only[binT,binV];rfl,rfl,h⟩
 .rename_i a b;refine⟨.bool a,.bool b,?_⟩;split at h;·rename_i hu;exact⟨_,rfl,rfl,_,by simp only[binT,hu],rfl,h⟩
  .rename_i hu;exact⟨_,rfl,rfl,_,by simp only[binT,hu],rfl,h⟩
  .cases h
 grind
theorem y7j{op:UnOp}{x z:Leaf S.TC S.Ty}(h:unT op x=some z):∃u w,leafD x=.v u/\unV op u=some w/\leafD z=.v w:=by
 unfold unT at h;split at h;·cases h;exact⟨_,_,rfl,rfl,rfl⟩
 .cases h;exact⟨_,_,rfl,rfl,rfl⟩
 grind
theorem qii{v:TV S}(h:idxT v=some n):idxOf v.toA=some n/\v≠.fl .undef:=by
 unfold idxT at h;split at h;·cases h;exact⟨rfl,by simp⟩
 grind
theorem y8m{s:TSt T.S}{x:Operand}(h:idxT (evT T s t x)=some n):idxOf (ev T.E s.toS x)=some n:=by obtain⟨h1,h2⟩:=qii h;rw[q60 h2];omega
theorem qss:∀{l:List (TL S)}{ds:List (Leaf S.TC S.Ty)},allLf l=some ds->allD (l.map TL.toA)=some (ds.map leafD)
 |[],ds,h=>by simp only[allLf,sI]at h;subst h;rfl|c::r,ds,h=>by
  unfold allLf at h;split at h;·rename_i h0;cases h0
  .rename_i x r' h0;cases h0;split at h;·rename_i xs hx;cases h;simp only[List.map_cons,TL.toA,PD.toD,allD,qss hx,mS]
   .cases h
  grind
theorem qnb:∀{l:List (TL S)},allLf l=none->l.all TL.noAg=true->allD (l.map TL.toA)=none|[],h,_=>by cases h|c::r,h,ha=>by simp only[List.all_cons,aT]at ha;cases c with
  |d x=>cases x with|lf y=>
    simp only[allLf]at h;split at h;·cases h
    .rename_i hr;simp only[List.map_cons,TL.toA,PD.toD,allD,qnb hr ha.2,Option.map_none]|ag cs=>cases ha.1
  |_=>rfl
theorem qs7{cs:List (TL S)}{v:TV S}(h:qoa cs=some v):qdn (cs.map TL.toA)=v.toA:=by
 unfold qoa at h;unfold qdn;split at h;·rename_i ds hd;cases h;rw[qss hd];rfl
 .rename_i hd;split at h;·rename_i ha;cases h;rw[qnb hd ha];rfl
  grind
theorem qpx(v:TV S)(hv:q6b v=some v):v.toA.cells=v.cells.map TL.toA/\v.toA.cells.length=v.cells.length:=by have:=qso v hv;simp_all
theorem qsn{place:Nat->Option (Nat×Nat)}:∀{ps:List (Nat×TV S)}{cells cs:List (TL S)},(∀p∈ps,q6b p.2=some p.2)->fillT place cells ps=some cs->fillA place (cells.map TL.toA) (ps.map fun p=>(p.1,p.2.toA))=some (cs.map TL.toA)
 |[],cells,cs,_,h=>by simp only[fillT,sI]at h;subst h;rfl|(i,v)::r,cells,cs,hm,h=>by
  simp only[fillT]at h;split at h
  .rename_i off size hp;split at h;·rename_i hc;obtain⟨h1,h2⟩:=qpx v (hm (i,v) (by simp));simp only[List.map_cons,fillA,hp,h2,List.length_map,hc,and_self,if_true];have:=qsn (fun p hp=>hm p (by simp[hp])) h;rw[<-this,h1];simp only[List.map_append,List.map_take,List.map_drop]
   .cases h
  grind
theorem qmb{t:TypeId}:∀{l:List (Nat×Operand)}{s:TSt T.S}{ps:List (Nat×TV T.S)},qrs T t s l=some ps->(∀p∈ps,q6b p.2=some p.2)/\q5p T.E s.toS l=some (ps.map fun p=>(p.1,p.2.toA))
 |[],s,ps,h=>by simp only[qrs,sI]at h;subst h;exact⟨by simp,rfl⟩|(i,x)::r,s,ps,h=>by
  simp only[qrs]at h;split at h
  .rename_i v vs h1 h2;cases h;obtain⟨rfl,hm,hne⟩:=qav h1;obtain⟨h3,h4⟩:=qmb h2;refine⟨fun p hp=>?_,?_⟩
   .rcases List.mem_cons.1 hp with rfl|hp;·exact h1
    .exact h3 p hp
   .simp only[q5p,q60 hne,hm,qu9,h4,List.map_cons]
  grind
theorem y6f{v:TV T.S}{s:TSt T.S}{n:Nat}(h:lenT T t v s=some n):lenA T.E t v.toA s.toS=some n/\v≠.fl .undef:=by
 unfold lenT at h;unfold lenA;split at h;·rename_i hu;cases h;refine⟨?_,by simp⟩;rw[hu];rfl
 .rename_i hu;cases h;refine⟨?_,by simp⟩;rw[hu];simp[TV.toA,TL.toA,PD.toD,leafD]
 .rename_i hu;rw[hu];split at h;·rename_i hc;cases h;simp only[TV.toA,TL.toA,q1q,hc,List.length_map];simp
  .cases h
 .rename_i hu;rw[hu];split at h;·rename_i hc;cases h;have hc':q0u (heapA s.heap) _ 0=_:=(q4y s.heap _ 0).trans (congrArg TL.toA hc);simp only[TV.toA,TL.toA,TSt.toS,hc',List.length_map];simp
  .cases h
 .rename_i hu;rw[hu];split at h;·rename_i hc;cases h;simp only[TV.toA,TL.toA,q1q,hc];simp
  .cases h
 grind
theorem q8c{len:Nat}{lo hi:Option (TV S)}{k:Nat->Nat->Option β}{r:β}(h:qd6 len lo hi k=some r):∃a b,q40 len (lo.map TV.toA) (hi.map TV.toA)=some (a,b)/\k a b=some r/\(∀v∈lo,v≠.fl .undef)/\(∀v∈hi,v≠.fl .undef):=by unfold qd6 at h;unfold q40;cases hi with
 |none=>simp only at h;cases lo with|none=>grind|some a=>
   simp only at h;split at h;·rename_i n hn;obtain⟨h1,h2⟩:=qii hn;obtain⟨h3,h4⟩:=qpa h;refine⟨_,_,?_,h4,by simpa using h2,by simp⟩;simp only[Option.map_none,mS,h1,h3,and_self,if_true]
   grind
 |some b=>
  simp only at h;split at h;·cases h
  .rename_i m hm;obtain⟨h1,h2⟩:=qii hm;obtain⟨h3,h4⟩:=qpa h;cases lo with|none=>grind|some a=>
    simp only at h4;split at h4;·rename_i n hn;obtain⟨h5,h6⟩:=qii hn;obtain⟨h7,h8⟩:=qpa h4;refine⟨_,_,?_,h8,by simpa using h6,by simpa using h2⟩;simp only[mS,h1,h3,h5,h7,and_self,if_true]
    simp_all
theorem qcp{s:TSt T.S}{x:Option Operand}(h:∀v∈x.map (evT T s t),v≠.fl .undef):x.map (ev T.E s.toS)=(x.map (evT T s t)).map TV.toA:=by cases x with|none=>rfl|some y=>simp only[mS];rw[q60 (t:=t) (h (evT T s t y) (by simp))]
theorem q69{E:Env0}{s:St}(h:(ev E s y).placed=true\/∃o,ev E s y=.ref o):plainC E s y=none:=by
 cases y with|const c=>
  exfalso;simp only[ev,q16]at h;split at h;·rcases h with h|⟨o,h⟩<;>cases h
  .unfold q0k at h;split at h<;>(rcases h with h|⟨o,h⟩<;>cases h)|_=>
  simp only[plainC];generalize ev E s _=c at h;rcases h with h|⟨o,h⟩;·cases c<;>first|rfl|cases h
  .rw[h];rfl
theorem y0v(hS:T.S.Ok T.E.P){s:TSt T.S}{k:TV T.S->Option β}{r:β}(h:segT T t (evT T s t y) lo hi mx s k=some r):∃v,q5n T.E t y lo hi mx s.toS=some v.toA/\k v=some r:=by
 unfold segT at h;split at h
 .rename_i p hv;have hev:=q3o hv (by simp);split at h
  .rename_i c xs l hc;split at h;·rename_i he;obtain⟨a,b,h1,h2,h3,h4⟩:=q8c h;obtain⟨e,h5,h6,h7⟩:=hS.elem t c he;refine⟨_,?_,h2⟩;have hpl:plainC T.E s.toS y=none:=q69 (.inl (by rw[hev];rfl));simp only[q5n,hpl,segOp,hev,TV.toA,TL.toA,segBase,q1q,hc,h5,List.length_map];rw[qcp h3,qcp h4,h1];simp only[q3g hS he h5,if_true,Nat.zero_add]
   .cases h
  .cases h
 .rename_i o hv;have hev:=q3o hv (by simp);split at h
  .rename_i c xs l hc;split at h;·rename_i he;obtain⟨a,b,h1,h2,h3,h4⟩:=q8c h;obtain⟨e,h5,h6,h7⟩:=hS.elem t c he;refine⟨_,?_,h2⟩;have hpl:plainC T.E s.toS y=none:=q69 (.inr ⟨o,by rw[hev];rfl⟩);have hc':q0u s.toS.heap o 0=_:=(q4y s.heap o 0).trans (congrArg TL.toA hc);simp only[q5n,hpl,segOp,hev,TV.toA,TL.toA,segBase,hc',h5,List.length_map];rw[qcp h3,qcp h4,h1];simp only[q3g hS he h5,if_true,Nat.zero_add]
   .cases h
  .cases h
 .rename_i p a0 b0 hv;have hev:=q3o hv (by simp);split at h
  .rename_i c xs l hc;split at h;·rename_i he;obtain⟨hle,h⟩:=q67 h;obtain⟨a,b,h1,h2,h3,h4⟩:=q8c h;obtain⟨e,h5,h6,h7⟩:=hS.elem t c he;refine⟨_,?_,h2⟩;have hpl:plainC T.E s.toS y=none:=q69 (.inl (by rw[hev];rfl));simp only[q5n,hpl,segOp,hev,TV.toA,TL.toA,segBase,q1q,hc,h5,List.length_map,hle,if_true];rw[qcp h3,qcp h4,h1];simp only[q3g hS he h5,if_true]
   .cases h
  .cases h
 grind
theorem qov(_hS:T.S.Ok T.E.P){c:T.S.TC}{s:TSt T.S}{k:List (T.S.Ty c)->Option β}{r:β}(h:qpe T c u y s k=some r):∃ys,copySrc T.E s.toS y=some (ys.map (T.S.enc c))/\k ys=some r:=by
 unfold qpe at h;split at h
 .rename_i p lo hi hv;have hev:=q3o hv (by simp);split at h
  .rename_i c' xs l hc;split at h;·rename_i ys hy;cases q74 hy;obtain⟨hle,h⟩:=q67 h;refine⟨_,?_,h⟩;have hpl:plainC T.E s.toS y=none:=q69 (.inl (by rw[hev];rfl));simp only[copySrc,hpl,hev,TV.toA,TL.toA,q1q,hc,List.length_map,hle,if_true,List.map_drop,List.map_take]
   .cases h
  grind
 .split at h
  .rename_i yl hp;split at h;·rename_i ys hy;cases q74 hy;exact⟨ys,by simp only[copySrc,q0q hp,PD.toD,leafD],h⟩
   .cases h
  grind
theorem qz3(hS:T.S.Ok T.E.P){s:TSt T.S}{k:TV T.S->TSt T.S->Option β}{r:β}(h:copyT T t u y z s k=some r):Does (qcl T.E t u y z s.toS) k r:=by
 unfold copyT at h;split at h
 .rename_i p lo hi hv;have hev:=q3o hv (by simp);split at h
  .rename_i c xs hc;split at h;·rename_i he;obtain⟨ys,h1,h2⟩:=qov hS h;obtain⟨hle,h3⟩:=q67 h2;obtain⟨e,h5,h6,h7⟩:=hS.elem t c he.1;obtain⟨e',g5,g6,g7⟩:=hS.elem u c he.2;refine⟨_,_,?_,h3⟩;simp only[qcl,hev,TV.toA,TL.toA,h1,h5,g5,q1q,hc,List.length_map,hle,q3g hS he.1 h5,and_self,if_true];rw[<-q66];simp only[TL.toA,PD.toD,leafD,List.map_append,List.map_take,List.map_drop]
   .cases h
  .cases h
 grind
theorem qtv(hS:T.S.Ok T.E.P){s:TSt T.S}{k:TV T.S->Option β}{r:β}(h:y26 T t y lo hi mx s k=some r):∃v,q5n T.E t y lo hi mx s.toS=some v.toA/\k v=some r:=by
 unfold y26 at h;split at h
 .rename_i l hp;split at h;·rename_i hu;obtain⟨a,b,h1,h2,h3,h4⟩:=q8c h;refine⟨_,?_,h2⟩;simp only[q5n,q0q hp,PD.toD,leafD];rw[qcp h3,qcp h4,h1,hu];rfl
  grind
 .rename_i c xs hp;split at h;·rename_i he;obtain⟨a,b,h1,h2,h3,h4⟩:=q8c h;refine⟨_,?_,h2⟩;obtain⟨e,h5,h6,h7⟩:=hS.elem t c he;simp only[q5n,q0q hp,PD.toD,leafD,h5,List.length_map];rw[qcp h3,qcp h4,h1];simp only[q3g hS he h5,if_true,TV.toA,TL.toA,PD.toD,leafD,List.map_drop,List.map_take]
  grind
 .exact y0v hS h
theorem qql(hS:T.S.Ok T.E.P){q:Bool}{s:TSt T.S}{k:TV T.S->TSt T.S->Option β}{r:β}(h:qts T q t y z s k=some r):Does (q2l T.E q t y z s.toS) k r:=by
 unfold qts at h;split at h
 .rename_i c yl he hp;split at h
  .rename_i ys hy;cases q74 hy;split at h
   .rename_i hg;obtain⟨e,h5,h6,h7⟩:=hS.elem t c he;simp only[yak,h5]at hg;split at hg
    .rename_i b hb;simp only[aT,dT]at hg;split at h
     .rename_i c' xs l hv;split at h;·rename_i xs' hx;cases q74 hx;obtain⟨h1,h2⟩:=qma h;refine⟨_,_,?_,h2⟩;simp only[q2l,q0q hp,PD.toD,leafD,h5,hb,hg,q3g hS he h5,and_self,if_true,q3o hv (by simp),TV.toA,TL.toA,List.length_map,h1,List.map_append]
      .cases h
     .rename_i p hv;split at h
      .rename_i c' xs l hc;split at h;·cases h
       .rename_i hq;split at h
        .rename_i xs' hx;cases q74 hx;obtain⟨h1,h2⟩:=qma h;refine⟨_,_,?_,h2⟩;have hq':q=false:=by simpa using hq
         simp only[q2l,q0q hp,PD.toD,leafD,h5,hb,hg,q3g hS he h5,and_self,if_true,q3o hv (by simp),TV.toA,TL.toA,q1q,hc,hq',List.length_map,h1,List.map_append];rw[<-qb0];rfl
        .cases h
      .cases h
     .cases h
    .cases hg
   .cases h
  .cases h
 grind
theorem qjz(hS:T.S.Ok T.E.P){v:TV T.S}{s:TSt T.S}{k:TV T.S->Option β}{r:β}(h:qg2 T t v n s k=some r):(∃w,q1r T.E t v.toA n s.toS=some w.toA/\k w=some r)/\v≠.fl .undef:=by
 unfold qg2 at h;split at h
 .rename_i c e p he hu;obtain⟨e',h5,h6,h7⟩:=hS.elem t c he;simp only[q2m,hu,sI]at h5;subst h5;split at h
  .rename_i c' xs l hc;split at h;·rename_i hcc;subst hcc;obtain⟨h0,x,hx,hk⟩:=qij h;refine⟨⟨_,?_,hk⟩,by simp⟩;simp only[q1r,hu,TV.toA,TL.toA,q1q,hc,h7,h0,if_true,List.getElem?_map,hx,mS,q70 hS,List.length_map,hS.len]
   .cases h
  .cases h
 .rename_i c e o he hu;obtain⟨e',h5,h6,h7⟩:=hS.elem t c he;simp only[q2m,hu,sI]at h5;subst h5;split at h
  .rename_i c' xs l hc;split at h;·rename_i hcc;subst hcc;obtain⟨h0,x,hx,hk⟩:=qij h;refine⟨⟨_,?_,hk⟩,by simp⟩;have hc':q0u s.toS.heap o 0=_:=(q4y s.heap o 0).trans (congrArg TL.toA hc);simp only[q1r,hu,TV.toA,TL.toA,hc',h7,h0,if_true,List.getElem?_map,hx,mS,q70 hS,List.length_map,hS.len]
   .cases h
  .cases h
 .rename_i c e p lo hi he hu;obtain⟨e',h5,h6,h7⟩:=hS.elem t c he;simp only[q2m,hu,sI]at h5;subst h5;split at h
  .rename_i c' xs l hc;split at h;·rename_i hcc;subst hcc;obtain⟨hb,h⟩:=q67 h;obtain⟨x,hx,hk⟩:=qel h;refine⟨⟨_,?_,hk⟩,by simp⟩;simp only[q1r,hu,TV.toA,TL.toA,q1q,hc,h7,hb,and_self,if_true,List.getElem?_map,hx,mS,q70 hS,List.length_map,hS.len]
   .cases h
  .cases h
 .rename_i c e c' xs he hu;obtain⟨e',h5,h6,h7⟩:=hS.elem t c he;simp only[q2m,hu,sI]at h5;subst h5;split at h;·rename_i hcc;subst hcc;obtain⟨h0,x,hx,hk⟩:=qij h;refine⟨⟨_,?_,hk⟩,by simp⟩;simp only[q1r,hu,TV.toA,TL.toA,PD.toD,leafD,h7,h0,if_true,List.getElem?_map,hx,mS,q70 hS,List.length_map,hS.len]
  .cases h
 .rename_i m e o b hu;split at h
  .rename_i sz hsz;split at h;·rename_i hb;refine⟨⟨_,?_,h⟩,by simp⟩;simp only[q1r,hu,TV.toA,TL.toA,hsz,if_pos hb]
   .cases h
  .cases h
 .rename_i m e cs hu;split at h
  .rename_i sz hsz;split at h;·rename_i hb;refine⟨⟨_,?_,h⟩,by simp⟩;simp only[q1r,hu,TV.toA,TL.toA,hsz,if_pos hb,List.map_drop]
   .cases h
  .cases h
 grind
theorem qiy{P:Program}{cs:List (Leaf S.TC S.Ty)}{off:Nat}{p:PD S}(h:partT P t cs off=some p):qbm P t (cs.map leafD) off=some p.toD:=by
 unfold partT at h;unfold qbm;split at h
 .rename_i n h1 h2;rw[h1,h2];split at h;·rename_i hle;cases h;simp only[List.length_map,hle,if_true,PD.toD,List.map_take,List.map_drop]
  .cases h
 .rename_i h1;rw[h1];split at h;·rename_i x hx;cases h;simp only[List.getElem?_map,hx,mS,PD.toD]
  .cases h
 grind
theorem y68{P:Program}{a b:Leaf S.TC S.Ty}(h:eqVT P t a b=some r):∃u v,leafD a=.v u/\leafD b=.v v/\eqV P t u v=some r:=by
 unfold eqVT at h;split at h;·rename_i a b hu;exact⟨_,_,rfl,rfl,by simp only[eqV,hu,h]⟩
 .rename_i k κ a κ' b hu;refine⟨_,_,rfl,rfl,?_⟩;simp only[eqV,hu];exact h
 .rename_i a b hu;refine⟨_,_,rfl,rfl,?_⟩;simp only[eqV,hu];exact h
 grind
theorem qje{P:Program}{xs ys:List (Leaf S.TC S.Ty)}:∀{fs:List Field}{r:Bool},eqFsT P xs ys fs=some r->eqFs P (xs.map leafD) (ys.map leafD) fs=some r
 |[],r,h=>h|f::fs,r,h=>by
  unfold eqFsT at h;split at h;·cases h
  .rename_i hn;split at h
   .rename_i a b ha hb;split at h;·rename_i p q hp hq;cases h;obtain⟨u,v,e1,e2,e3⟩:=y68 hp;have ih:=qje hq;unfold eqFs;rw[if_neg hn,qiy ha,qiy hb];simp only[PD.toD,e1,e2,e3,ih]
    .cases h
   grind
theorem qz6{P:Program}{op:BinOp}{xs ys:List (Leaf S.TC S.Ty)}(h:y3j P op t xs ys=some r):eqAgg P op t (xs.map leafD) (ys.map leafD)=some r:=by
 unfold y3j at h;unfold eqAgg;split at h
 .rename_i fs hu;rw[hu];simp only;split at h
  .rename_i hc;rw[if_pos hc];split at h;·rw[qje h]
   .split at h;·rename_i b hb;cases h;rw[qje hb]
    .cases h
   .cases h
  .cases h
 grind
theorem qse{s:TSt T.S}:∀{l:List Operand}{ps:List (Nat×Nat)},capsT T s l=some ps->q9t T.E s.toS l=some ps
 |[],ps,h=>by simp only[capsT,sI]at h;subst h;rfl|x::r,ps,h=>by
  simp only[capsT]at h;split at h;·rename_i o a ps' h1 h2;cases h;simp only[q9t,q3o h1 (by simp),TV.toA,TL.toA,qse h2]
  grind
end Go.Ab

namespace Go.Ab
variable {fl : Flag} {q : Bool} {ty : TypeId} {op : Op}
variable {S : Sig} {β : Type} {T : TEn} {P : Program}
theorem qi2{s:TSt S}{cs:List (Option S.TC)}{z:Value}{xs:List (TL S)}(h:qc0 cs z=some xs):(some (.ptr s.toS.heap.length 0,{s.toS with heap:=s.toS.heap++[(q16 z).cells]}):Option (AV×St))=some ((TV.fl (.ptr s.heap.length 0):TV S).toA,TSt.toS {s with heap:=s.heap++[xs]}):=by rw[qlh h];simp[TSt.toS,heapA,TV.toA,TL.toA]
theorem qte(hS:T.S.Ok T.E.P){s s1:TSt T.S}{v:TV T.S}(h:qu4 T fl q ty op s=some (v,s1)):q0b T.E fl q op s.toS=some (v.toA,s1.toS):=by
 unfold qu4 at h;split at h;·exact qcn h
 .rename_i x hx;split at h;·rename_i w hw;cases h;obtain⟨rfl,hm,hne⟩:=ql0 hw;cases x with|tmp t=>exact absurd rfl (hx t)|_=>simp only[q0b];rw[q60 hne,hm];rfl
  .cases h
 .split at h;·rename_i w hw;cases h;obtain⟨rfl,hm,hne⟩:=ql0 hw;simp only[q0b];rw[q60 hne,hm];rfl
  .cases h
 .rename_i e;split at h
  .rename_i z hz;split at h;·rename_i cs hcs;cases h;simp only[q0b,hz,mS];exact qi2 hcs
   .cases h
  .cases h
 .rename_i e x;split at h
  .rename_i w n hw hn;obtain⟨rfl,hm,hne⟩:=qav hw;obtain⟨h1,h2⟩:=qpx _ hw;split at h
   .rename_i hc;cases h;have h3:(evT T s e x).toA.cells.length=n:=by rw[h2];exact hc
    simp only[q0b,q60 hne,hm,hn];rw[if_pos h3,h1];simp[TSt.toS,heapA,TV.toA,TL.toA]
   .cases h
  .cases h
 .rename_i t parts;split at h
  .rename_i z ps hz hps;obtain⟨h1,h2⟩:=qmb hps;split at h
   .rename_i hpl;split at h
    .rename_i cs0 hcs0;split at h
     .rename_i cs hcs;split at h;·rename_i w hw;cases h;have h3:=qsn h1 hcs;rw[<-qct hcs0]at h3;simp only[q0b,hz,h2,hpl,if_true,h3,mS,qs7 hw]
      .cases h
     .cases h
    .cases h
   .cases h
  .cases h
 .rename_i t n parts;split at h
  .rename_i c e hc he;split at h
   .rename_i ps hps;split at h
    .rename_i xs hxs;split at h;·rename_i hcond;cases h;simp only[q0b,he,qhy hps,qr5 hS hxs,List.length_map,q3g hS hc he,hcond,and_self,if_true,TV.toA,TL.toA]
     .cases h
    .cases h
   .cases h
  .cases h
 .rename_i x;split at h;·rename_i hv;cases h;simp only[q0b,q3o hv (by simp)];rfl
  .rename_i hv;cases h;simp only[q0b,q3o hv (by simp)];rfl
  .rename_i hv;split at h;·rename_i ho;cases h;have ho':=ho;rw[<-qea,<-q1q]at ho';simp only[q0b,q3o hv (by simp),TV.toA,TL.toA,ho',if_true]
   .cases h
  .rename_i hv;cases h;simp only[q0b,q3o hv (by simp)];rfl
  .cases h
 .rename_i o t x;split at h
  .rename_i a ha;split at h;·rename_i r hr;cases h;obtain⟨u,w,h1,h2,h3⟩:=y7j hr;simp only[q0b,q0q ha,PD.toD,h1,h2,mS,TV.toA,TL.toA,h3]
   .cases h
  .cases h
 .rename_i src dst x;split at h;·rename_i h1 h2 h3;cases h;simp only[q0b,h1,h2,q0q h3,PD.toD,leafD,TV.toA,TL.toA]
  .rename_i h1 h2 h3;cases h;simp only[q0b,h1,h2,q0q h3,PD.toD,leafD,TV.toA,TL.toA]
  .cases h
 .rename_i t x i;split at h
  .rename_i off u hf;split at h
   .rename_i m hm;split at h;·rename_i hv;cases h;simp only[q0b,hf,hm,q3o hv (by simp),TV.toA,TL.toA]
    .rename_i hv;cases h;simp only[q0b,hf,hm,q3o hv (by simp),TV.toA,TL.toA,List.map_drop]
    .rename_i hv;split at h;·rename_i ho;cases h;have ho':=ho;rw[<-qea,<-q1q]at ho';simp only[q0b,hf,hm,q3o hv (by simp),TV.toA,TL.toA,ho',if_true]
     .cases h
    .cases h
   .cases h
  .cases h
 .rename_i t x i;split at h
  .rename_i cs off u hp hf;split at h;·rename_i y hy;cases h;simp only[q0b,q0q hp,hf,PD.toD,qiy hy,mS,TV.toA,TL.toA]
   .cases h
  .cases h
 .rename_i t i;split at h
  .rename_i vs hv;have h1:get s.toS.env t=.tup (vs.map TL.toA):=by rw[show s.toS.env=envA s.env from rfl,q2v,hv];rfl
   split at h;·rename_i x hx;cases h;simp only[q0b,h1,List.getElem?_map,hx,mS,TL.toA,TV.toA]
   .rename_i o a hx;cases h;simp only[q0b,h1,List.getElem?_map,hx,mS,TL.toA,TV.toA]
   .cases h
  .cases h
 .rename_i f first caps;split at h
  .rename_i h0;split at h;·rename_i ps hps;cases h;simp only[q0b,h0,if_true,qse hps,mS,TV.toA,TL.toA]
   .cases h
  .cases h
 .rename_i args argTypes;split at h
  .rename_i x t h1 h2;split at h;·rename_i n hn;cases h;obtain⟨h3,h4⟩:=y6f hn;simp only[q0b,q3b,h1,h2,q60 h4,h3,mS];rfl
   .cases h
  .cases h
 .rename_i args argTypes;split at h
  .rename_i x y h1;split at h;·rename_i κ a κ' b h2 h3;cases h;simp only[q0b,q3b,h1,q0q h2,q0q h3,PD.toD,leafD,TV.toA,TL.toA]
   .cases h
  .cases h
 .rename_i args argTypes;split at h
  .rename_i x y h1;split at h;·rename_i κ a κ' b h2 h3;cases h;simp only[q0b,q3b,h1,q0q h2,q0q h3,PD.toD,leafD,TV.toA,TL.toA]
   .cases h
  .cases h
 grind
theorem qol(c:S.TC)(n:Nat)(x:S.Ty c):(List.replicate n x).map (S.enc c)=List.replicate n (S.enc c x):=by simp
theorem qzu(hS:T.S.Ok T.E.P){s:TSt T.S}{k:TV T.S->TSt T.S->Option β}{r:β}(h:stepT T fl q ty op s k=some r):Does (q0b T.E fl q op s.toS) k r:=by
 unfold stepT at h;split at h
 .rename_i t a;have hne:evT T s 0 a≠.fl .undef:=by intro e;rw[e]at h;unfold loadT at h;split at h<;>cases h
  simp only[q0b];rw[q60 hne];exact qyk hS h
 .rename_i c a b;split at h
  .rename_i t hc;split at h
   .split at h;·rename_i x hx;refine⟨_,_,?_,h⟩;simp only[q0b,q3o hc (by simp),TV.toA,TL.toA,PD.toD,leafD,if_true,q0q hx,mS]
    .cases h
   .split at h;·rename_i x hx;refine⟨_,_,?_,h⟩;simp only[q0b,q3o hc (by simp),TV.toA,TL.toA,PD.toD,leafD,fT,if_false,q0q hx,mS]
    .cases h
  grind
 .rename_i op t x y t';split at h;·rename_i a b ha hb;obtain⟨u,v,z,h1,h2,w,h3,h4,h5⟩:=qzb h;refine⟨_,_,?_,h5⟩;simp only[q0b,q0q ha,q0q hb,PD.toD,h1,h2,h3,mS,TV.toA,TL.toA,h4]
  .rename_i xs ys ha hb;split at h;·rename_i r hr;refine⟨_,_,?_,h⟩;simp only[q0b,q0q ha,q0q hb,PD.toD,qz6 hr,mS,TV.toA,TL.toA,leafD]
   .cases h
  grind
 .rename_i t x lo hi mx;obtain⟨v,h1,h2⟩:=qtv hS h;refine⟨_,_,?_,h2⟩;simp only[q0b,h1,mS]
 .rename_i t x i;split at h;·rename_i n hn;obtain⟨⟨w,h1,h2⟩,h3⟩:=qjz hS h;refine⟨_,_,?_,h2⟩;simp only[q0b,y8m hn,q60 h3,h1,mS]
  grind
 .rename_i t x i;split at h;·rename_i n l hu hn hp;obtain⟨h0,b,hb,hk⟩:=qij h;refine⟨_,_,?_,hk⟩;simp only[q0b,y8m hn,q0q hp,PD.toD,leafD,qp1,hu,h0,if_true,hb,mS,TV.toA,TL.toA]
  grind
 .rename_i t l c;split at h
  .rename_i cd e n m he hte hl hc;split at h
   .rename_i z b hz hb;split at h
    .rename_i x hx;split at h
     .rename_i hb2;obtain⟨hp,hk⟩:=q67 h;refine⟨_,_,?_,hk⟩;have h1:((q4j T.E.P e).bind fun z=>q4n (q16 z))=some (T.S.enc cd x):=by cases hz0:q4j T.E.P e with|none=>rw[hz0]at hz;cases hz|some z0=>rw[hz0]at hz;simp only[bS]at hz⊢;rw[qd3 (by intro hh;rw[hh]at hz;cases hz),qd9 hz,qoq hS hx]
      have h2:=q3g hS he hte [x];simp only[List.map_cons,List.map_nil]at h2;simp only[q0b,hte,q0q hl,q0q hc,PD.toD,leafD,h1,hb];rw[if_pos ⟨hp.1,hp.2.1,hp.2.2,hb2,h2⟩];simp only[TV.toA,TL.toA,qol]
     .cases h
    .cases h
   .cases h
  grind
 .rename_i args argTypes;split at h
  .rename_i x y t u h1 h2;split at h;·rename_i htu;subst htu;obtain⟨v,s1,h3,h4⟩:=qql hS h;refine⟨v,s1,?_,h4⟩;simp only[q0b,q3b,h1,h2,if_true,h3]
   .cases h
  grind
 .rename_i args argTypes;split at h
  .rename_i x y t u h1 h2;split at h;·cases h
   .rename_i hq;obtain⟨v,s1,h3,h4⟩:=qz3 hS h;refine⟨v,s1,?_,h4⟩;simp only[q0b,q3b,h1,h2,if_neg hq,h3]
  grind
 .split at h;·rename_i v s1 hp;exact⟨v,s1,qte hS hp,h⟩
  grind
end Go.Ab

namespace Go.Ab
variable {p : Prop} {f : FuncId} {E : Env0} {c : Code} {s : St}
variable {S : Sig} {β : Type} {T : TEn} {P : Program}
def Le{α:Type}(a b:Option α):Prop:=∀r,a=some r->b=some r
theorem qie(v:TL S):q0l v.toA=ptrsT v:=by cases v<;>rfl
theorem qhm(v:TV S):q4h v.toA=qk9 v:=by
 have key:∀vs:List (TL S),(vs.map TL.toA).flatMap q0l=vs.flatMap ptrsT:=by intro vs;induction vs with|nil=>rfl|cons v r ih=>simp only[List.map_cons,List.flatMap_cons,qie,ih]
 cases v with
 |fl x=>cases x with|loc p=>cases p<;>rfl|elt p i off=>cases p<;>rfl|seg p i off=>cases p<;>rfl|_=>rfl
 |agg cs=>exact key cs|tup cs=>exact key cs
theorem qjg(m:Nat)(e:TEnv S):dropE m (envA e)=envA (dropT m e):=by induction e with|nil=>rfl|cons p r ih=>
  obtain⟨k,u⟩:=p;simp only[envA,List.map_cons,dropE,dropT,qhm]at ih⊢;split;·simp_all
  .rw[ih];exact q5k _ _
theorem q5l(m:Nat)(h:THeap S):q37 m (heapA h)=q6w m h:=by simp only[q37,q6w,heapA,<-List.map_take,List.all_map,Function.comp_def,qie]
theorem qp0(m:Nat)(s:TSt S):trim m s.toS=(trimT m s).toS:=by
 simp only[trim,trimT,show s.toS.heap=heapA s.heap from rfl,q5l];split;·simp only[TSt.toS,qjg];simp only[heapA,List.map_take]
 rfl
theorem qko(vs:List (TL S)):(vs.map TL.toA).flatMap q0l=vs.flatMap ptrsT:=by induction vs with|nil=>rfl|cons v r ih=>simp only[List.map_cons,List.flatMap_cons,qie,ih]
theorem ycv(ρ:Nat->Nat)(v:TL S):renAV ρ v.toA=(renT ρ v).toA:=by cases v<;>rfl
theorem qeo(ρ:Nat->Nat)(vs:List (TL S)):(vs.map TL.toA).map (renAV ρ)=(vs.map (renT ρ)).map TL.toA:=by simp only[List.map_map];congr 1;funext v;exact ycv ρ v
theorem qi5(ρ:Nat->Nat)(h:THeap S):(heapA h).map (fun cs=>cs.map (renAV ρ))=heapA (h.map fun cs=>cs.map (renT ρ)):=by simp only[heapA,List.map_map];congr 1;funext cs;exact qeo ρ cs
theorem que(ρ:Nat->Nat)(v:TV S):quw ρ v.toA=(qxg ρ v).toA:=by cases v with|fl x=>cases x<;>rfl|agg cs=>exact congrArg AV.agg (qeo ρ cs)|tup cs=>exact congrArg AV.tup (qeo ρ cs)
theorem y07(ρ:Nat->Nat)(e:TEnv S):qjn ρ (envA e)=envA (qtp ρ e):=by simp only[qjn,qtp,envA,List.map_map];congr 1;funext p;simp only[Function.comp_def,que]
theorem qvd(s:TSt S)(o:Nat):q9l s.toS o=qoc s o:=by simp only[q9l,qoc,TSt.toS,envA,heapA,List.all_map,Function.comp_def,qhm,qie]
theorem qm7(h:THeap S)(o:Nat):(heapA h).getD o []=(h.getD o []).map TL.toA:=by simp only[List.getD_eq_getElem?_getD,heapA,List.getElem?_map];cases h[o]?<;>rfl
theorem qog(o' o0:Nat)(s:TSt S):qf2 o' o0 s.toS=(qgd o' o0 s).toS:=by simp only[qf2,qgd,TSt.toS,qet,y07,qm7];congr 1;rw[<-qi5];congr 1;simp only[heapA,List.map_take,List.map_set]
theorem y3e(o:Nat)(v:TV S):ptrTo o v.toA=y3n o v:=by cases v with|fl x=>cases x<;>rfl|_=>rfl
theorem qhn(k:Nat)(s:TSt S):∀m,qbr k s.toS m=qb1 k s m|0=>rfl|m+1=>by simp only[qbr,qb1,qvd,qhn k s m,show s.toS.heap=heapA s.heap from rfl,qm7,List.length_map];simp only[heapA,List.length_map]
theorem qmh(k m:Nat):∀(n:Nat)(s:TSt S),regain k m n s.toS=(qns k m n s).toS
 |0,_=>rfl|n+1,s=>by
  have e1:s.toS.heap.length=s.heap.length:=by simp[TSt.toS,heapA]
  have e2:(s.toS.env.any fun p=>ptrTo (s.heap.length-1) p.2)=s.env.any fun p=>y3n (s.heap.length-1) p.2:=by simp only[TSt.toS,envA,List.any_map,Function.comp_def,y3e]
  simp only[regain,qns,e1,e2,qhn,qog];split;·cases qb1 k s m with|none=>rfl|some o0=>exact qmh k m n _
  rfl
theorem qsf(k m:Nat)(s:TSt S):endRound k m s.toS=(qj4 k m s).toS:=by simp only[endRound,qj4,qmh,qp0]
theorem ql2(h:THeap S):∀(l:List Nat),q4m (heapA h) l=(qe9 h l).map heapA|[]=>rfl|o::r=>by simp only[q4m,qe9,qih,ql2 h r];cases h[o]? with|none=>rfl|some cs=>cases qe9 h r with|none=>rfl|some hs=>rfl
theorem qe2:∀(os:List Nat)(h hb:THeap S),q2g (heapA h) os (heapA hb)=heapA (qbn h os hb)|[],h,hb=>by cases hb<;>rfl|o::os,h,[]=>rfl|o::os,h,cs::r=>by have:=qe2 os (h.set o cs) r;simp only[qbn,<-this];simp only[heapA,List.map_cons,q2g,List.map_set]
theorem qzh(s:TSt S)(objs:List Nat)(h':THeap S):q4k s.toS objs (heapA h')=(quq s objs h').toS:=by
 have hl:s.toS.heap.length=s.heap.length:=by simp[TSt.toS,heapA]
 simp only[q4k,quq,TSt.toS,qh7,St.mk.injEq,true_and];rw[show(heapA s.heap).length=s.heap.length by simp[heapA],qi5,qe2];rw[show(heapA h').drop objs.length=heapA (h'.drop objs.length)by simp[heapA,List.map_drop],qi5];simp[heapA]
theorem qv4(vs:List (TL S)):q11 (vs.map TL.toA)=(qid vs).toA:=by match vs with|[]=>rfl|[v]=>rfl|v::w::r=>rfl
theorem y4k(ρ:Nat->Nat)(v:TV S):q9r ρ v.toA=(y1j ρ v).toA:=by cases v with|fl x=>cases x<;>rfl|tup us=>exact congrArg AV.tup (qeo ρ us)|agg us=>rfl
theorem y4r(keep:Bool)(k:Nat)(v:TV S)(h:THeap S):q7a keep k (v.toA,heapA h)=((qn5 keep k v h).1.toA,heapA (qn5 keep k v h).2):=by
 have same:∀v:TV S,(∀o,v≠.fl (.ref o))->(∀o p,v≠.tup [.ref o,.ref p])->q7a keep k (v.toA,heapA h)=(v.toA,heapA h):=by intro v hv hv2;cases v with
  |fl x=>cases x<;>first|rfl|exact absurd rfl (hv _)
  |tup vs=>match vs with
   |[]=>rfl|[x]=>cases x<;>rfl|[x,y]=>cases x<;>cases y<;>first|rfl|exact absurd rfl (hv2 _ _)
   |x::y::z::r=>cases x<;>cases y<;>rfl
  |_=>rfl
 unfold qn5;split
 .rename_i o;have e:q7a keep k ((TV.fl (TL.ref o):TV S).toA,heapA h)=if decide (o=k)&&q6w k h then match(heapA h).drop k with|[[.own xs false]]=>(if keep then AV.own xs false else .d (.list xs),(heapA h).take k)|_=>((TV.fl (TL.ref o):TV S).toA,heapA h)else((TV.fl (TL.ref o):TV S).toA,heapA h):=by rw[<-q5l];rfl
  rw[e];split
  .have hd:(heapA h).drop k=heapA (h.drop k):=by simp[heapA,List.map_drop]
   have ht:(heapA h).take k=heapA (h.take k):=by simp[heapA,List.map_take]
   rw[hd,ht];generalize h.drop k=r;rcases r with _|⟨cs,r⟩;·rfl
   .rcases r with _|⟨cs2,r⟩
    .rcases cs with _|⟨x,cs⟩;·rfl
     .rcases cs with _|⟨y,cs⟩;·cases x with|own c ys l=>cases l<;>cases keep<;>rfl|_=>rfl
      .cases x with|own c ys l=>cases l<;>rfl|_=>rfl
    .rcases cs with _|⟨x,cs⟩;·rfl
     .rcases cs with _|⟨y,cs⟩;·cases x with|own c ys l=>cases l<;>rfl|_=>rfl
      .cases x with|own c ys l=>cases l<;>rfl|_=>rfl
  .rfl
 .rename_i o p;have e:q7a keep k ((TV.tup [TL.ref o,TL.ref p]:TV S).toA,heapA h)=if decide (o=k)&&q6w k h then match(heapA h).drop k with|[[.own xs false]]=>(if keep then AV.agg [.own xs false]else .d (.agg [.list xs]),(heapA h).take k)|_=>(AV.undef,heapA h)else(AV.undef,heapA h):=by rw[<-q5l];rfl
  rw[e];split
  .have hd:(heapA h).drop k=heapA (h.drop k):=by simp[heapA,List.map_drop]
   have ht:(heapA h).take k=heapA (h.take k):=by simp[heapA,List.map_take]
   rw[hd,ht];generalize h.drop k=r;rcases r with _|⟨cs,r⟩;·rfl
   .rcases r with _|⟨cs2,r⟩
    .rcases cs with _|⟨x,cs⟩;·rfl
     .rcases cs with _|⟨y,cs⟩;·cases x with|own c ys l=>cases l<;>cases keep<;>rfl|_=>rfl
      .cases x with|own c ys l=>cases l<;>rfl|_=>rfl
    .rcases cs with _|⟨x,cs⟩;·rfl
     .rcases cs with _|⟨y,cs⟩;·cases x with|own c ys l=>cases l<;>rfl|_=>rfl
      .cases x with|own c ys l=>cases l<;>rfl|_=>rfl
  .rfl
 simp_all
theorem qvp{α:Type} [Decidable p]{x y:α}(h:(if p then some x else none)=some y):p/\x=y:=by simp_all
theorem qqw{α:Type} [Decidable p]{x:Option α}{y:α}(h:(if p then x else none)=some y):p/\x=some y:=by simp_all
theorem y7q:∀{k:LK S.TC}{x:Leaf S.TC S.Ty}{y:k.Ty S},k.of x=some y->k.mk y=x|.i κ,.i κ' n,y,h=>by have h':(if κ'=κ then some n else(none:Option Int))=some (y:Int):=h;obtain⟨rfl,rfl⟩:=qvp h';rfl|.b,.b x,y,h=>by have h':some x=some (y:Bool):=h;cases h';rfl|.s,.s x,y,h=>by have h':some x=some (y:List UInt8):=h;cases h';rfl|.l c,x,y,h=>by have h':qaz c x=some (y:List (S.Ty c)):=h;exact(q74 h').symm|.i _,.b _,_,h|.i _,.s _,_,h|.i _,.l ..,_,h|.i _,.o _,_,h|.b,.i ..,_,h|.b,.s _,_,h|.b,.l ..,_,h|.b,.o _,_,h|.s,.i ..,_,h|.s,.b _,_,h|.s,.l ..,_,h|.s,.o _,_,h=>by cases h
theorem yce(hS:S.Ok P){c:S.TC}{y:PD S}{z:S.Ty c}(h:ofPD c y=some z):(TL.d (packT (S.agg c) (S.cells c z)):TL S).toA=(TL.d y).toA:=by show AV.d (packT (S.agg c) (S.cells c z)).toD=AV.d y.toD;rw[<-hS.enc_eq,qoq hS h]
theorem y5v(hS:S.Ok P){c:S.TC}{x y:S.Ty c}(h:(TL.d (packT (S.agg c) (S.cells c x)):TL S).toA=(TL.d (packT (S.agg c) (S.cells c y))).toA):x=y:=by have h':AV.d (packT (S.agg c) (S.cells c x)).toD=AV.d (packT (S.agg c) (S.cells c y)).toD:=h;injection h' with h';rw[<-hS.enc_eq,<-hS.enc_eq]at h';exact hS.inj c _ _ h'
theorem of_mk(hS:S.Ok P):∀{a:OT S}{v:TL S}{x:a.Ty},a.of v=some x->(a.mk x).toA=v.toA
 |.lf k,.d (.lf y),x,h=>by have h':k.of y=some (x:k.Ty S):=h;show(TL.d (.lf (k.mk x))).toA=_;rw[y7q h']|.own c l,.own c' xs l',x,h=>by have h':(if l'=l then qaz c (.l c' xs)else none)=some (x:List (S.Ty c)):=h;obtain⟨rfl,h2⟩:=qqw h';cases q74 h2;rfl|.ag c,.d y,x,h=>yce hS (z:=x) h|.ptr o off,.ptr o' off',x,h=>by have h':(if o'=o/\off'=off then some ()else none)=some (x:Unit):=h;obtain⟨⟨rfl,rfl⟩,_⟩:=qvp h';rfl|.fn f cs,.fn f' cs',x,h=>by have h':(if f'=f/\cs'=cs then some ()else none)=some (x:Unit):=h;obtain⟨⟨rfl,rfl⟩,_⟩:=qvp h';rfl|.ref o,.ref o',x,h=>by
  have h':(if o'=o then some ()else none)=some (x:Unit):=h;split at h';·rename_i e;subst e;rfl
  simp_all|.undef,.undef,x,h=>rfl|.undef,.ref _,_,h|.undef,.skipped,_,h|.undef,.d _,_,h|.undef,.own ..,_,h|.undef,.loc _,_,h|.undef,.elt ..,_,h|.undef,.seg ..,_,h|.undef,.ptr ..,_,h|.undef,.view _,_,h|.undef,.fn ..,_,h=>by cases h|.ref _,.undef,_,h|.ref _,.skipped,_,h|.ref _,.d _,_,h|.ref _,.own ..,_,h|.ref _,.loc _,_,h|.ref _,.elt ..,_,h|.ref _,.seg ..,_,h|.ref _,.ptr ..,_,h|.ref _,.view _,_,h|.ref _,.fn ..,_,h=>by cases h|.lf _,.ref _,_,h|.own ..,.ref _,_,h|.ag _,.ref _,_,h|.ptr ..,.ref _,_,h|.fn ..,.ref _,_,h=>by cases h|.lf _,.undef,_,h|.lf _,.skipped,_,h|.lf _,.d (.ag _),_,h|.lf _,.own ..,_,h|.lf _,.loc _,_,h|.lf _,.elt ..,_,h|.lf _,.seg ..,_,h|.lf _,.ptr ..,_,h|.lf _,.view _,_,h|.lf _,.fn ..,_,h=>by cases h|.own ..,.undef,_,h|.own ..,.skipped,_,h|.own ..,.d _,_,h|.own ..,.loc _,_,h|.own ..,.elt ..,_,h|.own ..,.seg ..,_,h|.own ..,.ptr ..,_,h|.own ..,.view _,_,h|.own ..,.fn ..,_,h=>by cases h|.ag _,.undef,_,h|.ag _,.skipped,_,h|.ag _,.own ..,_,h|.ag _,.loc _,_,h|.ag _,.elt ..,_,h|.ag _,.seg ..,_,h|.ag _,.ptr ..,_,h|.ag _,.view _,_,h|.ag _,.fn ..,_,h=>by cases h|.ptr ..,.undef,_,h|.ptr ..,.skipped,_,h|.ptr ..,.d _,_,h|.ptr ..,.own ..,_,h|.ptr ..,.loc _,_,h|.ptr ..,.elt ..,_,h|.ptr ..,.seg ..,_,h|.ptr ..,.view _,_,h|.ptr ..,.fn ..,_,h=>by cases h|.fn ..,.undef,_,h|.fn ..,.skipped,_,h|.fn ..,.d _,_,h|.fn ..,.own ..,_,h|.fn ..,.loc _,_,h|.fn ..,.elt ..,_,h|.fn ..,.seg ..,_,h|.fn ..,.ptr ..,_,h|.fn ..,.view _,_,h=>by cases h
theorem qmf(hS:S.Ok P):∀{l:List (OT S)}{vs:List (TL S)}{x:Prods l},qdy l vs=some x->(vals l x).map TL.toA=vs.map TL.toA|[],[],_,_=>rfl|[],_::_,x,h=>by have h':(none:Option (Prods ([]:List (OT S))))=some x:=h;grind|[a],[v],x,h=>by have h':a.of v=some (x:a.Ty):=h;show [(a.mk x).toA]=[v.toA];rw[of_mk hS h']|[a],[],x,h=>by have h':(none:Option (Prods [a]))=some x:=h;grind|[a],_::_::_,x,h=>by have h':(none:Option (Prods [a]))=some x:=h;grind|a::b::r,[],x,h=>by have h':(none:Option (Prods (a::b::r)))=some x:=h;grind|a::b::r,v::w,x,h=>by have h':(match a.of v,qdy (b::r) w with|some x,some xs=>some (x,xs)|_,_=>(none:Option (a.Ty×Prods (b::r))))=some (x:a.Ty×Prods (b::r)):=h;cases h1:a.of v with|none=>simp_all|some y=>cases h2:qdy (b::r) w with|none=>simp_all|some ys=>rw[h1,h2]at h';cases h';show(a.mk y).toA::(vals (b::r) ys).map TL.toA=_;rw[of_mk hS h1,qmf hS h2];rfl
theorem qcq:∀(l:List (OT S))(x:Prods l),(vals l x).length=l.length|[],_=>rfl|[_],_=>rfl|a::b::r,x=>by simp only[vals,List.length_cons,qcq (b::r) x.2]
theorem qf9:∀(ns:List Nat)(l l':List (TL S)),l.map TL.toA=l'.map TL.toA->heapA (q4q ns l)=heapA (q4q ns l')
 |[],_,_,_=>rfl|n::r,l,l',h=>by
  simp only[q4q,heapA,List.map_cons]at*;have h1:(l.take n).map TL.toA=(l'.take n).map TL.toA:=by simp only[List.map_take,h]
  have h2:(l.drop n).map TL.toA=(l'.drop n).map TL.toA:=by simp only[List.map_drop,h]
  rw[h1];have:=qf9 r _ _ h2;simp only[heapA]at this;grind
theorem q8h:∀(h:THeap S),q4q (h.map List.length) h.flatten=h|[]=>rfl|cs::r=>by simp only[List.map_cons,q4q,List.flatten_cons,List.take_left,List.drop_left,q8h r]
theorem q82:∀(ns:List Nat)(l:List (TL S)),(q4q ns l).flatten=l.take ns.sum|[],l=>by rfl|n::r,l=>by simp only[q4q,List.flatten_cons,q82 r,List.sum_cons,List.take_add]
theorem qo8(hS:S.Ok P){o:OSpec S}{vs:List (TL S)}{hp:THeap S}{x:o.Out}(hv:vs.length=o.res.length)(hl:hp.map List.length=o.heap.map List.length)(h:qdy o.all (vs++hp.flatten)=some x):q11 ((resOf o x).map TL.toA)=q11 (vs.map TL.toA)/\heapA (q30 o x)=heapA hp:=by
 have h1:=qmf hS h;constructor;·congr 1;simp only[resOf,List.map_take,h1,<-hv];simp
 .simp only[q30];rw[<-hl];rw[qf9 (hp.map List.length) ((vals o.all x).drop o.res.length) hp.flatten (by simp_all),q8h]
theorem yhd(hS:S.Ok P):∀{k:LK S.TC}{x y:k.Ty S},leafD (k.mk x)=leafD (k.mk y)->x=y|.i κ,x,y,h=>by have h':D.v (.int κ (x:Int))=D.v (.int κ (y:Int)):=h;grind|.b,x,y,h=>by have h':D.v (.bool (x:Bool))=D.v (.bool (y:Bool)):=h;grind|.s,x,y,h=>by have h':D.v (.string ⟨⟨(x:List UInt8)⟩⟩)=D.v (.string ⟨⟨(y:List UInt8)⟩⟩):=h;grind|.l c,x,y,h=>by have h':D.list ((x:List (S.Ty c)).map (S.enc c))=D.list ((y:List (S.Ty c)).map (S.enc c)):=h;injection h' with h';exact(List.map_inj_right (fun a b hab=>hS.inj c a b hab)).1 h'
theorem y9h(hS:S.Ok P):∀{a:OT S}{x y:a.Ty},(a.mk x).toA=(a.mk y).toA->x=y|.lf k,x,y,h=>by have h':AV.d (leafD (k.mk x))=AV.d (leafD (k.mk y)):=h;injection h' with h';exact yhd hS h'|.own c l,x,y,h=>by have h':AV.own ((x:List (S.Ty c)).map (S.enc c)) l=AV.own ((y:List (S.Ty c)).map (S.enc c)) l:=h;injection h' with h';exact(List.map_inj_right (fun a b hab=>hS.inj c a b hab)).1 h'|.ag c,x,y,h=>y5v hS (x:=x) (y:=y) h|.ptr ..,_,_,_=>rfl|.fn ..,_,_,_=>rfl|.ref _,_,_,_=>rfl|.undef,_,_,_=>rfl
theorem qxn(hS:S.Ok P):∀{l:List (OT S)}{x y:Prods l},(vals l x).map TL.toA=(vals l y).map TL.toA->x=y|[],_,_,_=>rfl|[a],x,y,h=>by simp only[vals,List.map_cons,List.map_nil,List.cons.injEq,and_true]at h;exact y9h hS h|a::b::r,x,y,h=>by simp only[vals,List.map_cons,List.cons.injEq]at h;exact Prod.ext (y9h hS h.1) (qxn hS h.2)
theorem qt8{vs ws:List AV}(hl:vs.length=ws.length)(h:q11 vs=q11 ws):vs=ws:=by match vs,ws,hl with|[],[],_=>rfl|[v],[w],_=>simp only[q11]at h;rw[h]|v::v'::r,w::w'::r',_=>simpa[q11]using h
theorem y3y(hS:S.Ok P){o:OSpec S}{x y:o.Out}(h1:q11 ((resOf o x).map TL.toA)=q11 ((resOf o y).map TL.toA))(h2:heapA (q30 o x)=heapA (q30 o y)):x=y:=by
 apply qxn hS (l:=o.all);have hx:=qcq o.all x;have hy:=qcq o.all y;have h3:=qt8 (by simp[resOf,hx,hy]) h1;have h4:((vals o.all x).drop o.res.length).map TL.toA=((vals o.all y).drop o.res.length).map TL.toA:=by
  have:=congrArg List.flatten h2;simp only[heapA,q30]at this;have key:∀l:List (TL S),l.length=o.heap.flatten.length->((q4q (o.heap.map List.length) l).map fun cs=>cs.map TL.toA).flatten=l.map TL.toA:=by intro l hl;rw[<-List.map_flatten,q82,List.take_of_length_le (by rw[hl,List.length_flatten];exact Nat.le_refl _)]
  rw[key _ (by rw[List.length_drop,hx];simp[OSpec.all]),key _ (by rw[List.length_drop,hy];simp[OSpec.all])]at this;omega
 rw[<-List.take_append_drop o.res.length (vals o.all x),<-List.take_append_drop o.res.length (vals o.all y),List.map_append,List.map_append,h4];simp only[resOf]at h3;rw[h3]
theorem qbf{vs:List (TL T.S)}{hs:THeap T.S}{o:OSpec T.S}{x:o.Out}(h:callC T f vs hs o=some x):CSem T f vs hs o x:=by
 unfold callC at h;split at h;·rename_i hx;cases h;exact hx.choose_spec
 grind
theorem qig(hS:T.S.Ok T.E.P){vs:List (TL T.S)}{hs:THeap T.S}{o:OSpec T.S}{x:o.Out}(h:CSem T f vs hs o x):callC T f vs hs o=some x:=by unfold callC;have hx:∃x,CSem T f vs hs o x:=⟨x,h⟩;rw[dif_pos hx];congr 1;obtain⟨m,h1⟩:=hx.choose_spec;obtain⟨m',h2⟩:=h;have h3:=qor h1 (Nat.le_max_left m m');have h4:=qor h2 (Nat.le_max_right m m');rw[h3]at h4;simp only[sI,pI]at h4;exact y3y hS h4.1 h4.2
theorem y2j{n m k:Nat}{q q':Ex×St}(h:exec E f k n c s=some q)(h':exec E f k m c s=some q'):q=q':=by have h1:=qiq h (Nat.le_max_left n m);have h2:=qiq h' (Nat.le_max_right n m);simp_all
theorem q4x{E:Env0}{f:FuncId}{n m k:Nat}(hle:n<=m):∀{K:List Fr}{ex:Ex}{s:St}{q:Ex×St},unw E f k n K ex s=some q->unw E f k m K ex s=some q
 |[],ex,s,q,h=>h|.seq b::K,ex,s,q,h=>by cases ex with
  |normal=>
   simp only[unw]at h⊢;split at h;·rename_i e1 s1 h1;rw[qiq h1 hle];exact q4x hle h
   grind|_=>simp only[unw]at h⊢;exact q4x hle h
 |.block id m::K,ex,s,q,h=>by cases ex with|exit i=>
   simp only[unw]at h⊢;split at h;·rename_i hi;rw[if_pos hi];exact q4x hle h
   .rename_i hi;rw[if_neg hi];exact q4x hle h|_=>simp only[unw]at h⊢;exact q4x hle h
 |.loop b m::K,ex,s,q,h=>by cases ex with
  |normal=>
   simp only[unw]at h⊢;split at h;·rename_i e1 s1 h1;rw[qiq h1 hle];exact q4x hle h
   grind|_=>simp only[unw]at h⊢;exact q4x hle h
theorem qpc{E:Env0}{f:FuncId}{k n:Nat}:∀(K:List Fr)(s:St),unw E f k n K .ret s=some (.ret,s)|[],_=>rfl|.seq _::K,s=>by simp only[unw];exact qpc K s|.block _ _::K,s=>by simp only[unw];exact qpc K s|.loop _ _::K,s=>by simp only[unw];exact qpc K s
theorem Goes.uniq{F:Fx}{K:List Fr}{q q':AV×Heap}(h:Goes E F c K s q)(h':Goes E F c K s q'):q=q':=by obtain⟨n,ex,s1,ex',s2,h1,h2,h3⟩:=h;obtain⟨m,fx,t1,fx',t2,g1,g2,g3⟩:=h';have:=y2j h1 g1;cases this;have u1:=q4x (Nat.le_max_left n m) h2;have u2:=q4x (Nat.le_max_right n m) g2;simp_all
theorem qo0{F:Fx}{o:OSpec T.S}{K:List Fr}{s:TSt T.S}{x:o.Out}(h:goC T F o c K s=some x):BSem T F o c K s x:=by
 unfold goC at h;split at h;·rename_i hx;cases h;exact hx.choose_spec
 grind
theorem ybo(hS:T.S.Ok T.E.P){F:Fx}{o:OSpec T.S}{K:List Fr}{s:TSt T.S}{x:o.Out}(h:BSem T F o c K s x):goC T F o c K s=some x:=by unfold goC;have hx:∃x,BSem T F o c K s x:=⟨x,h⟩;rw[dif_pos hx];congr 1;have:=Goes.uniq hx.choose_spec h;simp only[pI]at this;exact y3y hS this.1 this.2
end Go.Ab

namespace Go.Ab
variable {r : Rule} {dst : Option Nat} {m n t u : Nat} {x : Operand} {o : Oper} {ops : Array Oper} {s s1 : St} {E : Env0} {f : FuncId} {b c : Code} {fn : Func}
variable {S : Sig} {β : Type} {T : TEn} {P : Program}
def Runs(A:Nat->Option St)(k:TSt S->Option β)(x:β):Prop:=∃n s1,A n=some (TSt.toS s1)/\k s1=some x
theorem qnf{h:FuncId}{vs:List (TL T.S)}{s:TSt T.S}{k:TSt T.S->Option β}{x:β}(hh:callT T r h vs dst s k=some x):Runs (fun n=>callA T.E r n h (vs.map TL.toA) dst s.toS) k x:=by
 unfold callT at hh;split at hh;·grind
 .rename_i objs ho;split at hh
  .rename_i hm;split at hh
   .rename_i hs hhs;split at hh
    .rename_i y hy;split at hh;·cases hh
     .rename_i hd;obtain⟨m,hc⟩:=qbf hy;refine⟨m+1,_,?_,hh⟩;have hl:s.toS.heap.length=s.heap.length:=by simp[TSt.toS,heapA]
      simp only[callA,qko,show s.toS.heap=heapA s.heap from rfl,show(heapA s.heap).length=s.heap.length by simp[heapA],ho,hm,if_true,ql2,hhs,mS,qeo,qi5,hc,qv4,y4r];have hlen:∀q:THeap T.S,(heapA q).length=q.length:=fun q=>by simp[heapA]
      rw[hlen,if_neg hd,y4k,qzh,qcx]
    .cases hh
   .cases hh
  grind
theorem qy8{s:TSt T.S}{t:TypeId}{v:TL T.S}(h:argT T s t x=some v):argOf T.E s.toS x=some v.toA:=by
 unfold argT at h;have key:∀{p:PD T.S},q2e T s t x=some p->argOf T.E s.toS x=some (AV.d p.toD):=by
  intro p hp;have h1:=q0q hp;simp only[argOf];split;·rename_i o a hv;cases x with|const c=>have h2:q16 c=AV.ptr o a:=hv;have h3:plainC T.E s.toS (.const c)=q4n (q16 c):=rfl;rw[h3,h2]at h1;cases h1|_=>simp only[plainC,hv,plain]at h1;cases h1
  .rename_i o a hv;cases x with|const c=>have h2:q16 c=AV.fn o a:=hv;have h3:plainC T.E s.toS (.const c)=q4n (q16 c):=rfl;rw[h3,h2]at h1;cases h1|_=>simp only[plainC,hv,plain]at h1;cases h1
  .rename_i a hv;cases x with|const c=>have h2:q16 c=AV.view a:=hv;have h3:plainC T.E s.toS (.const c)=q4n (q16 c):=rfl;rw[h3,h2]at h1;cases h1|_=>simp only[plainC,hv,plain]at h1;cases h1
  .rename_i a hv;cases x with|const c=>have h2:q16 c=AV.ref a:=hv;have h3:plainC T.E s.toS (.const c)=q4n (q16 c):=rfl;rw[h3,h2]at h1;cases h1|_=>simp only[plainC,hv,plain]at h1;cases h1
  grind
 split at h;·rename_i hv;cases h;simp only[argOf,q3o hv (by simp)];rfl
 .rename_i hv;cases h;simp only[argOf,q3o hv (by simp)];rfl
 .rename_i hv;cases h;simp only[argOf,q3o hv (by simp)];rfl
 .rename_i hv;cases h;simp only[argOf,q3o hv (by simp)];rfl
 .split at h;·rename_i p hp;cases h;exact key hp
  grind
theorem qqf{s:TSt T.S}:∀{l:List Operand}{ts:List TypeId}{vs:List (TL T.S)},argsT T s ts l=some vs->q9u T.E s.toS l=some (vs.map TL.toA)
 |[],ts,vs,h=>by simp only[argsT,sI]at h;subst h;rfl|x::r,ts,vs,h=>by
  simp only[argsT]at h;split at h;·rename_i v vs' h1 h2;cases h;simp only[q9u,qy8 h1,qqf h2,List.map_cons]
  grind
def ownL:TL S->List D|.own c xs _=>xs.map (S.enc c)|_=>[]
theorem qhd{s:TSt S}(x:Operand):Ab.shareOf s.toS x=(q7e s x).map fun p=>(p.1,ownL p.2):=by cases x with
 |tmp u=>simp only[Ab.shareOf,q7e,show s.toS.env=envA s.env from rfl,q2v];generalize getT s.env u=v;cases v with
  |fl y=>cases y with
   |own c xs l=>cases l<;>rfl|loc p=>cases p with
    |slot t=>simp only[TV.toA,TL.toA];generalize getT s.env t=w;cases w with
     |fl z=>cases z with|own c xs l=>cases l<;>rfl|_=>rfl
     |_=>rfl
    |cell o off=>rfl
   |_=>rfl
  |_=>rfl
 |_=>rfl
theorem qrb{s:TSt S}{v:TL S}(h:q7e s x=some (u,v)):∃c xs,v=.own c xs false:=by unfold q7e at h;grind
theorem qls{s:TSt S}(x:Operand):Ab.shareCell s.toS x=(q6h s x).map fun p=>(p.1,p.2.1,p.2.2.1,ownL p.2.2.2):=by cases x with
 |tmp u=>simp only[Ab.shareCell,q6h,show s.toS.env=envA s.env from rfl,q2v,show s.toS.heap=heapA s.heap from rfl];generalize getT s.env u=v;cases v with
  |fl y=>cases y with
   |loc p=>cases p with|slot t=>rfl|cell o off=>simp only[TV.toA,TL.toA,q4y];generalize cellT s.heap o off=w;cases w with|own c xs l=>cases l<;>rfl|_=>rfl
   |_=>rfl
  |_=>rfl
 |_=>rfl
theorem qlj{s:TSt S}{o off:Nat}{v:TL S}(h:q6h s x=some (u,o,off,v)):∃c xs,v=.own c xs false:=by unfold q6h at h;grind
theorem qjc(s:TSt S)(x:Operand):Ab.cellShared s.toS x=qd2 s x:=by cases x with
 |tmp u=>simp only[Ab.cellShared,qd2,show s.toS.env=envA s.env from rfl,q2v];generalize getT s.env u=v;cases v with
  |fl y=>cases y with|loc p=>cases p<;>rfl|_=>rfl
  |_=>rfl
 |_=>rfl
theorem qco(s:TSt S)(l:List Operand):q52 s.toS l=qbq s l:=by unfold q52 qbq;congr 1;funext x;rw[qhd,qjc];cases q7e s x<;>rfl
theorem qck:∀{l:List Operand}{s s1:TSt T.S}{ts:List TypeId}{vs:List (TL T.S)}{sh:List (Nat×Nat)},q6i T s ts l=some (vs,s1,sh)->q5a T.E s.toS l=some (vs.map TL.toA,s1.toS,sh)|[],s,s1,ts,vs,sh,h=>by simp only[q6i,sI,pI]at h;obtain⟨rfl,rfl,rfl⟩:=h;rfl|x::r,s,s1,ts,vs,sh,h=>by simp only[q6i]at h;cases h1:qjs T s (ts.headD 0) x with|none=>grind|some q=>obtain⟨v,s2,l0⟩:=q;simp only[h1]at h;cases h2:q6i T s2 ts.tail r with|none=>grind|some q2=>
    obtain⟨vs',s3,l'⟩:=q2;simp only[h2,sI,pI]at h;obtain⟨rfl,rfl,rfl⟩:=h;have one:qe1 T.E s.toS x=some (v.toA,s2.toS,l0):=by unfold qjs at h1;unfold qe1;rw[qhd];cases hs:q7e s x with
     |none=>rw[hs]at h1;simp only at h1;rw[qls];cases hsc:q6h s x with|some p=>obtain⟨u,o,off,w⟩:=p;obtain⟨c,xs,rfl⟩:=qlj hsc;rw[hsc]at h1;simp only[sI,pI]at h1;obtain⟨rfl,rfl,rfl⟩:=h1;have e1:q0x (envA s.env)=envA (killT s.env):=qet s.env;have e2:q1a (heapA s.heap) o off .undef=heapA (qbv s.heap o off .undef):=qcr s.heap o off .undef;simp only[Option.map_none,mS,ownL,show s.toS.env=envA s.env from rfl,show s.toS.heap=heapA s.heap from rfl,e1,e2];simp only[TSt.toS,heapA,List.length_map,List.map_append,List.map_cons,List.map_nil,TL.toA]|none=>rw[hsc]at h1;simp only at h1;cases ha:argT T s (ts.headD 0) x with|none=>grind|some w=>rw[ha]at h1;simp only[sI,pI]at h1;obtain⟨rfl,rfl,rfl⟩:=h1;simp only[Option.map_none,qy8 ha]
     |some p=>obtain⟨u,w⟩:=p;obtain⟨c,xs,rfl⟩:=qrb hs;rw[hs]at h1;simp only[sI,pI]at h1;obtain⟨rfl,rfl,rfl⟩:=h1;have e1:putE (envA s.env) u .undef=envA (putT s.env u (.fl .undef)):=qba s.env u (.fl .undef);simp only[mS,ownL,e1,TSt.toS,heapA,List.length_map,List.map_append,List.map_cons,List.map_nil,TL.toA]
    simp only[q5a,one,qck h2,List.map_cons]
theorem qsl(o:Nat)(v:TV S):qtw o v.toA=qvs o v:=by cases v with|fl y=>cases y<;>rfl|_=>rfl
theorem qvg{o:Nat}{s:TSt S}:qxp dst o t s.toS=quh dst o t s:=by cases dst with|none=>rfl|some d=>simp only[qxp,quh,show s.toS.env=envA s.env from rfl,q2v,qsl]
theorem qkv{o:Nat}{s s1:TSt S}(h:qdc dst o t s=some s1):q5f dst o t s.toS=some s1.toS:=by
 unfold qdc at h;split at h
 .rename_i c xs d hcs hho;split at h
  .rename_i hc;cases h;have e0:s.toS.heap[o]?=some [.own (xs.map (S.enc c)) false]:=by show(heapA s.heap)[o]?=_;simp only[heapA,List.getElem?_map,hcs,mS,List.map_cons,List.map_nil,TL.toA]
   have e1:s.toS.heap.length=o+1:=by show(heapA s.heap).length=_;simp[heapA,hc.1]
   have e2:q37 o s.toS.heap=true:=by rw[show s.toS.heap=heapA s.heap from rfl,q5l];exact hc.2
   have e3:putE (dropE o (q0x (envA s.env))) d (.own (xs.map (S.enc c)) false)=envA (putT (dropT o (killT s.env)) d (.fl (.own c xs false))):=by rw[qet,qjg];exact qba _ d (.fl (.own c xs false))
   simp only[q5f,e0,qvg,hho,e1,e2,and_self,if_true];rw[show s.toS.env=envA s.env from rfl,e3];simp only[TSt.toS,heapA,List.map_take]
  grind
 .rename_i hcs;split at h
  .rename_i hc;cases h;have e0:s.toS.heap[o]?=some [.undef]:=by show(heapA s.heap)[o]?=_;simp only[heapA,List.getElem?_map,hcs,mS,List.map_cons,List.map_nil,TL.toA]
   have e1:s.toS.heap.length=o+1:=by show(heapA s.heap).length=_;simp[heapA,hc.1]
   have e2:q37 o s.toS.heap=true:=by rw[show s.toS.heap=heapA s.heap from rfl,q5l];exact hc.2
   have e3:dropE o (envA s.env)=envA (dropT o s.env):=by rw[qjg]
   simp only[q5f,e0,e1,e2,and_self,if_true];rw[show s.toS.env=envA s.env from rfl,e3];simp only[TSt.toS,heapA,List.map_take]
  grind
 grind
theorem qhf{dst:Option Nat}:∀{l:List (Nat×Nat)}{s s1:TSt S},qc2 dst l s=some s1->unshare dst l s.toS=some s1.toS|[],s,s1,h=>by simp only[qc2,sI]at h;subst h;rfl|(o,t)::r,s,s1,h=>by simp only[qc2]at h;cases h1:qc2 dst r s with|none=>grind|some s2=>simp only[h1]at h;simp only[unshare,qhf h1,qkv h]
theorem qzi{j:Nat}{want:Bool}(hg:o.guard=some (j,want))(ht:(ops[j]?).bind (·.dst)=some t):q1m ops s o=match get s.env t with|.d (.v (.bool b))=>some (b==want)|.skipped=>some false|_=>none:=by simp only[q1m,hg];grind
theorem qfx(hS:T.S.Ok T.E.P){F:Fx}{s:TSt T.S}{k:TSt T.S->Option β}{x:β}(hg:q1m ops s.toS o=some true)(h:doOpT T F r ops o s k=some x):Runs (fun n=>runOp T.E F.f r ops n o s.toS) k x:=by
 unfold doOpT at h;split at h
 .rename_i t a y ho;split at h;·rename_i hd;obtain⟨s1,h1,h2⟩:=qvh hS h;exact⟨1,s1,by simp only[runOp,hg,ho,hd,if_true,h1],h2⟩
  grind
 .rename_i g args argTypes ho;by_cases hsh:qbq s args.toList=true
  .rw[if_pos hsh]at h;by_cases hdr:r.draws=true;·grind
   .rw[if_neg hdr]at h;split at h
    .rename_i f caps vs s1' l hv hvs;obtain⟨n,s1,h1,h2⟩:=qnf h;simp only at h2;split at h2
     .rename_i s3 hu;refine⟨n+1,s3,?_,h2⟩;have hargs:=qck hvs;simp only[runOp,hg,ho,qco,hsh,if_true,if_neg hdr,q3o hv (by simp),TV.toA,TL.toA,hargs];have e:(List.map TL.toA (vs++List.map (fun x=>TL.ptr x.1 x.2) caps):List AV)=List.map TL.toA vs++List.map (fun x=>AV.ptr x.1 x.2) caps:=by rw[List.map_append];congr 1;simp[List.map_map,Function.comp_def,TL.toA]
      have h1':callA T.E (q5r T.E.an F.f r o) n f (List.map TL.toA (vs++List.map (fun x=>TL.ptr x.1 x.2) caps)) o.dst s1'.toS=some s1.toS:=h1;rw[<-e,h1'];exact qhf hu
     simp_all
    grind
  .rw[if_neg hsh]at h;split at h;·rename_i f caps vs hv hvs;obtain⟨n,s1,h1,h2⟩:=qnf h;refine⟨n+1,s1,?_,h2⟩;simp only[runOp,hg,ho,qco,if_neg hsh,q3o hv (by simp),TV.toA,TL.toA,qqf hvs];rw[<-h1,List.map_append];congr 2;simp[List.map_map,Function.comp_def,TL.toA]
   grind
 .rename_i hns hnc;split at h
  .rename_i hr;obtain⟨v,s1,h1,h2⟩:=qzu hS h;simp only at h2;split at h2;·rename_i w hw;refine⟨1,_,?_,h2⟩;have hk:=y44 hw;simp only[runOp,hg];simp only[hr,if_true,h1,hk,qu9,qcx]
   simp_all
  grind
theorem qp3{s:TSt S}{v:TV S}(h:getT s.env t=v):({s with env:=replT s.env t v}:TSt S)=s:=by rw[qqk h]
theorem y7x(hS:T.S.Ok T.E.P){F:Fx}{s:TSt T.S}{k:TSt T.S->Option β}{x:β}(h:opT T F r ops o s k=some x):Runs (fun n=>runOp T.E F.f r ops n o s.toS) k x:=by
 unfold opT at h;split at h;·rename_i hg;exact qfx hS (by simp only[q1m,hg]) h
 .rename_i j want hg;split at h;·cases h
  .rename_i t ht;have hgo:=qzi (s:=s.toS) hg ht;rw[show s.toS.env=envA s.env from rfl,q2v]at hgo;split at h
   .rename_i b hb;rw[hb]at hgo;simp only[TV.toA,TL.toA,PD.toD,leafD]at hgo;split at h;·rw[qp3 hb]at h;cases want with|true=>exact qfx hS hgo h|false=>exact⟨1,_,by simp only[runOp,hgo];exact congrArg some (qcx s o.dst (.fl .skipped)),h⟩
    .rw[qp3 hb]at h;cases want with|true=>exact⟨1,_,by simp only[runOp,hgo];exact congrArg some (qcx s o.dst (.fl .skipped)),h⟩|false=>exact qfx hS hgo h
   .rename_i hb;rw[hb]at hgo;simp only[TV.toA,TL.toA]at hgo;exact⟨1,_,by simp only[runOp,hgo];exact congrArg some (qcx s o.dst (.fl .skipped)),h⟩
   grind
theorem y3m{l:List Oper}(h:runOps E f r ops n l s=some s1)(hle:n<=m):runOps E f r ops m l s=some s1:=by induction hle with|refl=>exact h|step _ ih=>exact(mono _).ops _ _ _ _ _ _ ih
theorem y7c(h:runOp E f r ops n o s=some s1)(hle:n<=m):runOp E f r ops m o s=some s1:=by induction hle with|refl=>exact h|step _ ih=>exact(mono _).op _ _ _ _ _ _ ih
theorem qkr(hS:T.S.Ok T.E.P){F:Fx}{r:Rule}{ops:Array Oper}:∀{l:List Oper}{s:TSt T.S}{k:TSt T.S->Option β}{x:β},opsT T F r ops l s k=some x->Runs (fun n=>runOps T.E F.f r ops n l s.toS) k x|[],s,k,x,h=>⟨0,s,rfl,h⟩|o::l,s,k,x,h=>by obtain⟨n,s1,h1,h2⟩:=y7x hS h;obtain⟨m,s2,h3,h4⟩:=qkr hS h2;refine⟨max n m,s2,?_,h4⟩;simp only[q26,y7c h1 (Nat.le_max_left n m),y3m h3 (Nat.le_max_right n m)]
theorem y21{F:Fx}{s:TSt T.S}:qsk T.E F.f o s.toS=(takeT T F o s).map TSt.toS:=by
 unfold qsk takeT;split
 .rename_i t r d hop hg hd;simp only[hop,hg,hd];split;·rw[show s.toS.env=envA s.env from rfl,q2v];cases tyAgg T.E.P t with|none=>rfl|some g=>cases g with|false=>rfl|true=>match q0p T.E.P t with|none=>rfl|some 0=>rfl|some (n+2)=>rfl|some 1=>cases getT s.env r with
      |fl x=>cases x with
       |ptr p off=>simp only[TV.toA,TL.toA];rw[show content s.toS (.cell p off)=(cellT s.heap p off).toA from q4y _ _ _];cases cellT s.heap p off with
        |own c xs l=>cases l with|false=>simp only[TL.toA,mS,sI];rw[<-qcx,<-qb0];rfl|true=>rfl
        |d y=>cases y<;>rfl|_=>rfl
       |d y=>cases y<;>rfl|_=>rfl
      |_=>rfl
  rfl
 .rename_i r d hop hg hd;simp only[hop,hg,hd];split;·rw[show content s.toS (.slot r)=(getT s.env r).toA from q2v _ _];cases getT s.env r with
   |fl x=>cases x with
    |own c xs l=>cases l with|false=>simp only[TV.toA,TL.toA,mS,sI];rw[<-qcx,<-qb0];rfl|true=>rfl
    |d y=>cases y<;>rfl|_=>rfl
   |_=>rfl
  rfl
 simp
theorem y4s{F:Fx}{s:TSt T.S}:q5m T.E F.f ops s.toS=((headT T F ops s).1,(headT T F ops s).2.toS):=by unfold q5m headT;cases ops.toList with|nil=>rfl|cons o l=>simp only[y21];cases takeT T F o s<;>rfl
theorem qxx{v:TV S}{x:TL S}(h:outT v=some x):outOf v.toA=some x.toA:=by
 unfold outT at h;split at h;·cases h;rfl
 .cases h;rfl
 .cases h;rfl
 .split at h
  .rename_i p hp;cases h;have h1:=qd9 hp;unfold outOf;split;·rename_i hv;rw[hv]at h1;cases h1
   .rename_i hv;rw[hv]at h1;cases h1
   .rename_i hv;rw[hv]at h1;cases h1
   .rw[h1];rfl
  grind
theorem qvm{P:Program}{s:TSt S}{r:ResultVar}{v:TL S}(h:qvj P s r=some v):q55 P s.toS r=some v.toA:=by unfold qvj at h;unfold q55;cases r with|tmp t=>simp only at h⊢;rw[show s.toS.env=envA s.env from rfl,q2v];exact qxx h|cell a t=>
  simp only at h⊢;rw[show s.toS.env=envA s.env from rfl,q2v];split at h
  .rename_i o off hv;rw[hv];simp only[TV.toA,TL.toA];rw[show s.toS.heap=heapA s.heap from rfl,qih];split at h
   .rename_i n cs h1 h2 h3;rw[h1,h2,h3];simp only[mS];split at h
    .rename_i hle;rw[List.length_map,if_pos hle];split at h
     .rename_i ds hds;cases h;have h4:((cs.map TL.toA).drop off).take n=((cs.drop off).take n).map TL.toA:=by simp[List.map_take,List.map_drop]
      rw[h4,q3y hds];rfl
     .cases h
    .cases h
   .rename_i cs h1 h3;rw[h1,h3];simp only[mS];split at h;·rename_i w hw;simp only[List.getElem?_map,hw,mS];exact qxx (v:=.fl w) h
    .cases h
   grind
  grind
theorem qhu{P:Program}{s:TSt S}:∀{l:List ResultVar}{vs:List (TL S)},qei P s l=some vs->q1y P s.toS l=some (vs.map TL.toA)
 |[],vs,h=>by simp only[qei,sI]at h;subst h;rfl|r::l,vs,h=>by
  simp only[qei]at h;split at h;·rename_i v vs' h1 h2;cases h;simp only[q1y,qvm h1,qhu h2,List.map_cons]
  grind
theorem qpr(h:THeap S)(k:Nat):((heapA h).take k).flatMap (fun cs=>cs.flatMap q0l)=(h.take k).flatMap fun cs=>cs.flatMap ptrsT:=by rw[heapA,<-List.map_take];generalize h.take k=l;induction l with|nil=>rfl|cons cs r ih=>simp only[List.map_cons,List.flatMap_cons,qko,ih]
theorem qzy(h:THeap S):(heapA h).flatMap (fun cs=>cs.flatMap q0l)=h.flatMap fun cs=>cs.flatMap ptrsT:=by have:=qpr h h.length;rwa [List.take_length,show h.length=(heapA h).length by simp[heapA],List.take_length]at this
theorem y5e{s:TSt S}{k:Nat}(l:List ResultVar):l.all (q7n s.toS k)=l.all (y4y s k):=by congr 1;funext r;cases r with|tmp t=>rfl|cell a t=>simp only[q7n,y4y];rw[show s.toS.env=envA s.env from rfl,q2v];cases getT s.env a with|fl x=>cases x<;>rfl|_=>rfl
theorem qyq(vs:List (TL S)):qkq (q11 (vs.map TL.toA))=y1g vs:=by match vs with
 |[]=>rfl|[x]=>cases x with|d y=>cases y<;>rfl|_=>rfl
 |[x,y]=>cases x<;>cases y<;>rfl|x::y::z::r=>cases x<;>cases y<;>rfl
theorem qow(hS:S.Ok P){F:Fx}{o:OSpec S}{s:TSt S}{x:o.Out}(h:y2i P F o s=some x):leave P F.fn F.k s.toS=some (q11 ((resOf o x).map TL.toA),heapA (q30 o x)):=by
 unfold y2i at h;unfold leave;split at h;·cases h
 .rename_i vs hvs;rw[qhu hvs];simp only[qko,show s.toS.heap=heapA s.heap from rfl,qpr,qzy,show(heapA s.heap).length=s.heap.length by simp[heapA],y5e,qyq];split at h;·cases h
  rename_i hmk;rw[if_neg hmk];split at h;·rename_i hc;rw[if_pos hc];obtain⟨⟨h1,h2,h3⟩,h4⟩:=qqw h;obtain⟨h5,h6⟩:=qo8 hS h2 h3 h4;rw[if_pos h1,h5,h6];simp[heapA,List.map_take]
  .rename_i hc;rw[if_neg hc];obtain⟨⟨h1,h2,h3⟩,h4⟩:=qqw h;obtain⟨h5,h6⟩:=qo8 hS h2 h3 h4;grind
theorem qln(hS:S.Ok P){F:Fx}{o:OSpec S}{s:TSt S}{x:o.Out}(h:qus P F o s=some x):qjv P F.fn F.k s.toS=some (q11 ((resOf o x).map TL.toA),heapA (q30 o x)):=by
 unfold qus at h;split at h
 .rename_i t hres;split at h
  .rename_i c xs hg;obtain⟨⟨h1,h2,h3⟩,h4⟩:=qqw h;obtain⟨h5,h6⟩:=qo8 hS h2 h3 h4;have hg':get s.toS.env t=.own (xs.map (S.enc c)) false:=by rw[show s.toS.env=envA s.env from rfl,q2v,hg];rfl
   unfold qjv;rw[hres];simp only[hg',show s.toS.heap=heapA s.heap from rfl,q5l,show(heapA s.heap).length=s.heap.length by simp[heapA],h1,if_true,h5,h6];simp[heapA,List.map_take,TL.toA,q11]
  grind
 .rename_i r t hres;split at h
  .rename_i p hg ht hn;split at h
   .rename_i c xs hct;obtain⟨⟨h1,h2,h3⟩,h4⟩:=qqw h;obtain⟨h5,h6⟩:=qo8 hS h2 h3 h4;have hg':get s.toS.env r=.ptr p 0:=by rw[show s.toS.env=envA s.env from rfl,q2v,hg];rfl
    have hc':content s.toS (.cell p 0)=.own (xs.map (S.enc c)) false:=by show q0u (heapA s.heap) p 0=_;rw[q4y,hct];rfl
    unfold qjv;rw[hres];simp only[hg',ht,hn,hc',show s.toS.heap=heapA s.heap from rfl,q5l,show(heapA s.heap).length=s.heap.length by simp[heapA],h1,if_true,h5,h6];simp[heapA,List.map_take,TL.toA,q11]
   .cases h
  grind
 grind
theorem qcg(hS:S.Ok P){own:Bool}{F:Fx}{o:OSpec S}{s:TSt S}{x:o.Out}(h:qfv own P F o s=some x):qbb own P F.fn F.k s.toS=some (q11 ((resOf o x).map TL.toA),heapA (q30 o x)):=by
 unfold qfv at h;unfold qbb;split at h;·rename_i hc;rw[if_pos hc];exact qln hS h
 .rename_i hc;rw[if_neg hc];exact qow hS h
def KGoes(T:TEn)(F:Fx)(o:OSpec T.S)(ex:Ex)(K:List Fr)(s:St)(x:o.Out):Prop:=∃n ex' s2,unw T.E F.f F.k n K ex s=some (ex',s2)/\fin (T.E.an.own F.f) T.E.P F.fn F.k ex' s2=some (q11 ((resOf o x).map TL.toA),heapA (q30 o x))
theorem qa1{F:Fx}{o:OSpec T.S}{K:List Fr}{ex:Ex}{x:o.Out}(h:exec T.E F.f F.k n c s=some (ex,s1))(hk:KGoes T F o ex K s1 x):Goes T.E F c K s (q11 ((resOf o x).map TL.toA),heapA (q30 o x)):=by obtain⟨m,ex',s2,h1,h2⟩:=hk;exact⟨max n m,ex,s1,ex',s2,qiq h (Nat.le_max_left n m),q4x (Nat.le_max_right n m) h1,h2⟩
theorem qye{F:Fx}{o:OSpec T.S}{K:List Fr}{x:o.Out}(h:Goes T.E F c K s (q11 ((resOf o x).map TL.toA),heapA (q30 o x))):∃n ex s1,exec T.E F.f F.k n c s=some (ex,s1)/\KGoes T F o ex K s1 x:=by obtain⟨n,ex,s1,ex',s2,h1,h2,h3⟩:=h;exact⟨n,ex,s1,h1,n,ex',s2,h2,h3⟩
theorem k_seq{F:Fx}{o:OSpec T.S}{K:List Fr}{x:o.Out}(h:Goes T.E F b K s (q11 ((resOf o x).map TL.toA),heapA (q30 o x))):KGoes T F o .normal (.seq b::K) s x:=by obtain⟨n,ex,s1,ex',s2,h1,h2,h3⟩:=h;exact⟨n,ex',s2,by simp only[unw,h1];omega,h3⟩
theorem yft{F:Fx}{o:OSpec T.S}{K:List Fr}{x:o.Out}(h:Goes T.E F (.loop b) K (endRound F.k m s) (q11 ((resOf o x).map TL.toA),heapA (q30 o x))):KGoes T F o .normal (.loop b m::K) s x:=by obtain⟨n,ex,s1,ex',s2,h1,h2,h3⟩:=h;exact⟨n,ex',s2,by simp only[unw,h1];omega,h3⟩
theorem y2m(hS:T.S.Ok T.E.P){F:Fx}{o:OSpec T.S}{s:TSt T.S}{x:o.Out}(h:qfv (T.E.an.own F.f) T.E.P F o s=some x)(K:List Fr):KGoes T F o .ret K s.toS x:=⟨0,.ret,s.toS,qpc K _,qcg hS h⟩
theorem yj2{F:Fx}{o:OSpec T.S}{a:Code}{K:List Fr}{x:o.Out}(h:Goes T.E F a (.seq b::K) s (q11 ((resOf o x).map TL.toA),heapA (q30 o x))):Goes T.E F (.seq a b) K s (q11 ((resOf o x).map TL.toA),heapA (q30 o x)):=by obtain⟨n,ex,s1,ex',s2,h1,h2,h3⟩:=h;cases ex with
 |normal=>
  simp only[unw]at h2;split at h2;·rename_i e3 s3 h4;exact⟨n+1,e3,s3,ex',s2,by rw[qib _ _ _ _ _ _,h1];exact h4,q4x (Nat.le_succ n) h2,h3⟩
  simp_all|exit i=>simp only[unw]at h2;exact⟨n+1,_,s1,ex',s2,by rw[qib _ _ _ _ _ _,h1],q4x (Nat.le_succ n) h2,h3⟩|ret=>simp only[unw]at h2;exact⟨n+1,_,s1,ex',s2,by rw[qib _ _ _ _ _ _,h1],q4x (Nat.le_succ n) h2,h3⟩
theorem y7a{F:Fx}{o:OSpec T.S}{id:Nat}{K:List Fr}{x:o.Out}(h:Goes T.E F b (.block id s.heap.length::K) s (q11 ((resOf o x).map TL.toA),heapA (q30 o x))):Goes T.E F (.block id b) K s (q11 ((resOf o x).map TL.toA),heapA (q30 o x)):=by
 obtain⟨n,ex,s1,ex',s2,h1,h2,h3⟩:=h;cases ex with|normal=>simp only[unw]at h2;exact⟨n+1,_,_,ex',s2,by rw[q8g,h1],q4x (Nat.le_succ n) h2,h3⟩|exit i=>
  simp only[unw]at h2;split at h2;·rename_i hi;exact⟨n+1,.normal,_,ex',s2,by rw[q8g,h1];grind,q4x (Nat.le_succ n) h2,h3⟩
  .rename_i hi;exact⟨n+1,.exit i,s1,ex',s2,by rw[q8g,h1];grind,q4x (Nat.le_succ n) h2,h3⟩|ret=>simp only[unw]at h2;exact⟨n+1,_,s1,ex',s2,by rw[q8g,h1],q4x (Nat.le_succ n) h2,h3⟩
theorem ycs{F:Fx}{o:OSpec T.S}{K:List Fr}{x:o.Out}(h:Goes T.E F b (.loop b s.heap.length::K) s (q11 ((resOf o x).map TL.toA),heapA (q30 o x))):Goes T.E F (.loop b) K s (q11 ((resOf o x).map TL.toA),heapA (q30 o x)):=by obtain⟨n,ex,s1,ex',s2,h1,h2,h3⟩:=h;cases ex with
 |normal=>
  simp only[unw]at h2;split at h2;·rename_i e3 s3 h4;exact⟨n+1,e3,s3,ex',s2,by rw[qfc,h1];exact h4,q4x (Nat.le_succ n) h2,h3⟩
  grind|exit i=>simp only[unw]at h2;exact⟨n+1,_,s1,ex',s2,by rw[qfc,h1],q4x (Nat.le_succ n) h2,h3⟩|ret=>simp only[unw]at h2;exact⟨n+1,_,s1,ex',s2,by rw[qfc,h1],q4x (Nat.le_succ n) h2,h3⟩
theorem y47(s:TSt S):s.toS.heap.length=s.heap.length:=by simp[TSt.toS,heapA]
theorem qmt{s:TSt T.S}{v:TV T.S}(h:evT T s 0 x=v):replO s x v=s:=by cases x with|tmp t=>exact qp3 (s:=s) (t:=t) h|_=>rfl
theorem qfe(hS:T.S.Ok T.E.P)(F:Fx)(o:OSpec T.S):∀(n:Nat),(∀(c:Code)(K:List Fr)(s:TSt T.S)(x:o.Out),te T F o n c K s=some x->BSem T F o c K s x)/\(∀(ex:Ex)(K:List Fr)(s:TSt T.S)(x:o.Out),teK T F o n ex K s=some x->KGoes T F o ex K s.toS x)
 |0=>⟨fun c K s x h=>qo0 h,fun ex K s x h=>by cases h⟩|n+1=>by
  obtain⟨ih,ihK⟩:=qfe hS F o n;constructor;·intro c K s x h;unfold BSem;have hseq1:∀m,exec T.E F.f F.k (m+1) .skip s.toS=some (.normal,s.toS):=fun _=>rfl;unfold te at h;cases c with
   |skip=>exact qa1 (n:=1) rfl (ihK _ _ _ _ h)|label l=>exact qa1 (n:=1) rfl (ihK _ _ _ _ h)|region id ops draw=>simp only at h;cases draw with
    |true=>
     simp only at h;split at h
     .rename_i l hl;have hfr:qhg T.E.an F.f ops s.toS=true:=by simp_all
      simp only[hfr,Bool.true_eq_false,if_false]at h;obtain⟨m,s1,h1,h2⟩:=qkr hS h;refine qa1 (n:=m+1) (ex:=.normal) (s1:={s1.toS with env:=q81 s1.toS.env (T.E.an.clear F.f id)}) ?_ ?_;·rw[q98];simp only[if_true,hfr,Bool.true_eq_false,if_false,hl,List.map_cons,List.map_nil,agree,h1]
      .have:=ihK _ _ _ _ h2;simp only[TSt.toS]at this⊢;rw[qjt];omega
     grind|false=>
     simp only at h;obtain⟨m,s1,h1,h2⟩:=qkr hS h;refine qa1 (n:=m+1) (ex:=.normal) (s1:={s1.toS with env:=q81 s1.toS.env (T.E.an.clear F.f id)}) ?_ ?_;·rw[q98];simp only[fT,if_false,y4s,h1]
     .have:=ihK _ _ _ _ h2;simp only[TSt.toS]at this⊢;rw[qjt];omega
   |seq a b=>exact yj2 (ih _ _ _ _ h)|cond y a b=>
    simp only at h;split at h
    .rename_i t ht;have hev:=q3o ht (by simp);split at h;·rw[qmt ht]at h;obtain⟨m,ex,s1,h1,h2⟩:=qye (ih _ _ _ _ h);exact qa1 (n:=m+1) (by rw[qir,hev];exact h1) h2
     .rw[qmt ht]at h;obtain⟨m,ex,s1,h1,h2⟩:=qye (ih _ _ _ _ h);exact qa1 (n:=m+1) (by rw[qir,hev];exact h1) h2
    grind|block id b=>refine y7a ?_;rw[y47];exact ih _ _ _ _ h|loop b=>exact qo0 h|exit id=>exact qa1 (n:=1) rfl (ihK _ _ _ _ h)|ret=>exact qa1 (n:=1) rfl (y2m hS h K)|_=>cases h
  .intro ex K s x h;unfold teK at h;split at h;·exact y2m hS h _
   .exact⟨0,.normal,s.toS,rfl,qcg hS h⟩
   .split at h;·exact k_seq (qo0 h)
    .exact k_seq (ih _ _ _ _ h)
   .obtain⟨m,e2,s2,h1,h2⟩:=ihK _ _ _ _ h;rw[<-qp0]at h1;exact⟨m,e2,s2,by simp only[unw];omega,h2⟩
   .refine yft ?_;rw[qsf];exact qo0 h
   .obtain⟨m,e2,s2,h1,h2⟩:=ihK _ _ _ _ h;exact⟨m,e2,s2,by simp only[unw];omega,h2⟩
   .split at h;·rename_i hi;obtain⟨m,e2,s2,h1,h2⟩:=ihK _ _ _ _ h;rw[<-qp0]at h1;exact⟨m,e2,s2,by simp only[unw,hi,if_true];omega,h2⟩
    .rename_i hi;obtain⟨m,e2,s2,h1,h2⟩:=ihK _ _ _ _ h;exact⟨m,e2,s2,by simp only[unw,hi,if_false];omega,h2⟩
   .obtain⟨m,e2,s2,h1,h2⟩:=ihK _ _ _ _ h;exact⟨m,e2,s2,by simp only[unw];omega,h2⟩
   grind
theorem qch(hS:T.S.Ok T.E.P){F:Fx}{o:OSpec T.S}{K:List Fr}{s:TSt T.S}(n:Nat){p:Option o.Out}(h:te T F o n c K s=p):Le p (goC T F o c K s):=fun r hr=>ybo hS ((qfe hS F o n).1 c K s r (h.trans hr))
theorem y70(hS:T.S.Ok T.E.P){F:Fx}{o:OSpec T.S}{K:List Fr}{s:TSt T.S}(n:Nat){p:Option o.Out}(h:te T F o n b (.loop b s.heap.length::K) s=p):Le p (goC T F o (.loop b) K s):=fun r hr=>ybo hS (ycs (by rw[y47];exact(qfe hS F o n).1 b (.loop b s.heap.length::K) s r (h.trans hr)))
theorem qys(hS:T.S.Ok T.E.P){F:Fx}{o:OSpec T.S}{K:List Fr}{s:TSt T.S}(n:Nat){p:Option o.Out}(hc:c=.loop b)(h:te T F o n b (.loop b s.heap.length::K) s=p):Le p (goC T F o c K s):=by subst hc;exact y70 hS n h
def qld:List Nat->Code->Code|0::r,.seq a _=>qld r a|1::r,.seq _ b=>qld r b|0::r,.cond _ a _=>qld r a|1::r,.cond _ _ b=>qld r b|0::r,.block _ b=>qld r b|0::r,.loop b=>qld r b|_,c=>c
def qki:List Nat->Code->List Nat->List Fr->List Fr|0::r,.seq a b,ms,K=>qki r a ms (.seq b::K)|1::r,.seq _ b,ms,K=>qki r b ms K|0::r,.cond _ a _,ms,K=>qki r a ms K|1::r,.cond _ _ b,ms,K=>qki r b ms K|0::r,.block id b,ms,K=>qki r b ms.tail (.block id (ms.headD 0)::K)|0::r,.loop b,ms,K=>qki r b ms.tail (.loop b (ms.headD 0)::K)|_,_,_,K=>K
theorem q2f{k:IntKind}{a b:Int}(h:D.v (.int k a)=D.v (.int k b)):a=b:=by grind
theorem qvv{a b:Bool}(h:D.v (.bool a)=D.v (.bool b)):a=b:=by grind
theorem q17{α:Type}{e:α->D}(he:∀a b,e a=e b->a=b){xs ys:List α}(h:D.list (xs.map e)=D.list (ys.map e)):xs=ys:=by injection h with h;exact(List.map_inj_right (fun a b hab=>he a b hab)).1 h
def bindT:Nat->List (TL S)->TEnv S|_,[]=>[]|k,v::r=>(k,.fl v)::bindT (k+1) r
theorem qy1:∀(vs:List (TL S))(k:Nat),q2t k (vs.map TL.toA)=envA (bindT k vs)|[],_=>rfl|v::r,k=>by simp only[List.map_cons,q2t,bindT,qy1 r];rfl
theorem y6j(hS:T.S.Ok T.E.P){vs:List (TL T.S)}{hs:THeap T.S}{o:OSpec T.S}(n:Nat)(hok:T.E.ok f=true)(hf:T.E.P.funcs[f]?=some fn)(hb:fn.body=some c)(hn0:(decide (vs.length<=fn.ntmps)&&(q7t T.E.P fn c).isNone&&(T.E.lib f).isNone)=true){p:Option o.Out}(h:te T ⟨f,fn,hs.length⟩ o n c [] ⟨bindT 0 vs,hs⟩=p):Le p (callC T f vs hs o):=by
 rw[aT,aT]at hn0;have hn:=of_decide_eq_true hn0.1.1;have hnil:q7t T.E.P fn c=none:=Option.isNone_iff_eq_none.1 hn0.1.2;have hlb:T.E.lib f=none:=Option.isNone_iff_eq_none.1 hn0.2;have hro:qcj T.E.P fn c=c:=by simp[qcj,hnil]
 have hgn:∀vs hp r,q4g T.E.P fn c vs hp r=r:=fun vs hp r=>by simp[q4g,hnil]
 intro r hr;obtain⟨m,ex,s1,ex',s2,h1,h2,h3⟩:=(qfe hS ⟨f,fn,hs.length⟩ o n).1 c [] ⟨bindT 0 vs,hs⟩ r (h.trans hr);cases h2;refine qig hS ⟨m+1,?_⟩;have he:(⟨q2t 0 (vs.map TL.toA),heapA hs⟩:St)=(⟨bindT 0 vs,hs⟩:TSt T.S).toS:=by simp only[TSt.toS,qy1]
 have hl:(heapA hs).length=hs.length:=by simp[heapA]
 have h1':exec T.E f hs.length m c (⟨bindT 0 vs,hs⟩:TSt T.S).toS=some (ex,s1):=h1;simp only[call,hok,hlb,if_true,hf,hb,List.length_map,hn,he,hro,hgn,hl,h1'];cases ex with|normal=>simpa[fin,heapA]using h3|ret=>simpa[fin,heapA]using h3|exit i=>cases h3
theorem qec(hS:T.S.Ok T.E.P){rest:Code}{cl:T.S.TC}{xs:List (T.S.Ty cl)}{o:OSpec T.S}(n:Nat)(hok:T.E.ok f=true)(hf:T.E.P.funcs[f]?=some fn)(hb:fn.body=some c)(hn0:(decide (1<=fn.ntmps)&&(T.E.lib f).isNone)=true)(hnil:q7t T.E.P fn c=some rest){p:Option o.Out}(h:te T ⟨f,fn,0⟩ o n rest [] ⟨bindT 0 [.d (.lf (.l cl xs))],[]⟩=p)(he:xs=[]->∀r,p=some r->q11 ((resOf o r).map TL.toA)=.ref 0/\heapA (q30 o r)=[[.own [] false]]):Le p (callC T f [.d (.lf (.l cl xs))] [] o):=by
 rw[aT]at hn0;have hn:=of_decide_eq_true hn0.1;have hlb:T.E.lib f=none:=Option.isNone_iff_eq_none.1 hn0.2;have hro:qcj T.E.P fn c=rest:=by simp[qcj,hnil]
 intro r hr;obtain⟨m,ex,s1,ex',s2,h1,h2,h3⟩:=(qfe hS ⟨f,fn,0⟩ o n).1 rest [] ⟨bindT 0 [.d (.lf (.l cl xs))],[]⟩ r (h.trans hr);cases h2;refine qig hS ⟨m+1,?_⟩;have hst:(⟨q2t 0 ([TL.d (.lf (.l cl xs))].map TL.toA),heapA ([]:THeap T.S)⟩:St)=(⟨bindT 0 [.d (.lf (.l cl xs))],[]⟩:TSt T.S).toS:=by rfl
 have hg:∀q,q=some (q11 ((resOf o r).map TL.toA),heapA (q30 o r))->q4g T.E.P fn c ([TL.d (.lf (.l cl xs))].map TL.toA) (heapA ([]:THeap T.S)) q=q:=by rintro q rfl;unfold q4g;rw[hnil];cases xs with|nil=>obtain⟨e1,e2⟩:=he rfl r hr;rw[e1,e2];rfl|cons x xs=>rfl
 have h1':exec T.E f (heapA ([]:THeap T.S)).length m rest (⟨bindT 0 [.d (.lf (.l cl xs))],[]⟩:TSt T.S).toS=some (ex,s1):=h1;simp only[call,hok,hlb,if_true,hf,hb,List.length_map,List.length_singleton,hn,hst,hro,h1'];cases ex with|normal=>rw[show fin _ _ _ _ Ex.normal s1=_ from rfl]at h3;exact(hg _ h3).trans h3|ret=>exact(hg _ h3).trans h3|exit i=>cases h3
theorem qaq(hS:T.S.Ok T.E.P){m:List AV->Heap->Option (AV×Heap)}{vs:List (TL T.S)}{hs:THeap T.S}{o:OSpec T.S}(hok:T.E.ok f=true)(hl:T.E.lib f=some m){x:o.Out}(h:libA m (vs.map TL.toA) (heapA hs)=some (q11 ((resOf o x).map TL.toA),heapA (q30 o x)))(hp:T.E.pre f=none:=by rfl):callC T f vs hs o=some x:=qig hS ⟨1,by simp only[call,hok,hl,hp,if_true];exact h⟩
theorem qrj(hS:T.S.Ok T.E.P){m:List AV->Heap->Option (AV×Heap)}{p:Pre}{vs:List (TL T.S)}{hs:THeap T.S}{o:OSpec T.S}(hok:T.E.ok f=true)(hl:T.E.lib f=some m)(hp:T.E.pre f=some p){x:o.Out}(h:∃n,libA (p.k (call T.E n)) (vs.map TL.toA) (heapA hs)=some (q11 ((resOf o x).map TL.toA),heapA (q30 o x))):callC T f vs hs o=some x:=by obtain⟨n,hn⟩:=h;exact qig hS ⟨n+1,by simp only[call,hok,hl,hp,if_true];exact hn⟩
end Go.Ab

namespace Go.Ab
variable {a b n : Int}
theorem Le.refl{α:Type}(a:Option α):Le a a:=fun _ h=>h
theorem wrap64(h1:-9223372036854775808<=n)(h2:n<9223372036854775808):IntKind.wrap .i64 n=n:=by
 have key:IntKind.wrap .i64 n=if n%18446744073709551616≥9223372036854775808 then n%18446744073709551616-18446744073709551616 else n%18446744073709551616:=by show(if(true&&decide (n%18446744073709551616≥9223372036854775808))=true then n%18446744073709551616-18446744073709551616 else n%18446744073709551616)=_;simp only[tA',dT]
 omega
theorem q22(h1:-9223372036854775808<=a+b)(h2:a+b<9223372036854775808):addI .i64 a b=a+b:=wrap64 h1 h2
theorem q46(h1:-9223372036854775808<=a-b)(h2:a-b<9223372036854775808):subI .i64 a b=a-b:=wrap64 h1 h2
theorem shl1{k:Int}(h0:0<=k)(h:k<=62):shlI .i64 1 k=((2^k.toNat:Nat):Int):=by
 obtain⟨n,rfl⟩:=Int.eq_ofNat_of_zero_le h0;have hn:n<=62:=by omega
 simp only[shlI,IntKind.bits,tN,Int.one_mul];rw[Nat.min_eq_left (by omega)];have:(2:Int)^n=((2^n:Nat):Int):=by simp
 rw[this];have h2:2^n<=2^62:=Nat.pow_le_pow_right (by decide) hn;have h3:(2:Nat)^62=4611686018427387904:=by rfl
 generalize 2^n=m at*;exact wrap64 (by omega) (by omega)
theorem q04(h:a<b):ltB a b=true:=by simp[ltB,h]
theorem q00(h:b<=a):ltB a b=false:=by simp[ltB,h]
theorem q0s(h:a<=b):leB a b=true:=by simp[leB,h]
theorem q0v(h:b<a):leB a b=false:=by simp[leB,h]
theorem q0e(a:Int):eqB a a=true:=by simp[eqB]
theorem q0g(a:Int):neB a a=false:=by simp[neB]
theorem q0d(h:a≠b):eqB a b=false:=by simp[eqB,h]
theorem q1c(h:a≠b):neB a b=true:=by simp[neB,h]
theorem q0i{β:Type}{p:Prop} [Decidable p](h:p)(k:Option β):chk p k=k:=by simp[chk,h]
theorem q06{β:Type}{n:Nat}(h:n<=q07)(k:Option β):capOk n k=k:=by simp[capOk,h]
theorem qc5{β:Type}{len:Nat}(h0:0<=n)(h:n<=(len:Int))(k:Nat->Option β):hiK len n k=k n.toNat:=by simp[hiK,h0,h]
def ndiff(a b:Nat):Nat:=a^^^(a&&&b)
theorem q53(a b i:Nat):(ndiff a b).testBit i=(a.testBit i&&!b.testBit i):=by simp only[ndiff,Nat.testBit_xor,Nat.testBit_and];cases a.testBit i<;>cases b.testBit i<;>rfl
theorem q8a(a:Nat):BitVec.ofInt 64 (a:Int)=BitVec.ofNat 64 a:=by simp
theorem mod64{a:Nat}(h:a<2^62):a%2^64=a:=Nat.mod_eq_of_lt (by omega)
theorem qu8{a:Nat}(h:a<2^62):IntKind.wrap .i64 (a:Int)=a:=wrap64 (by omega) (by omega)
theorem q3a{a b:Nat}(ha:a<2^62)(hb:b<2^62):orI .i64 (a:Int) (b:Int)=((a|||b:Nat):Int):=by show IntKind.wrap .i64 (((BitVec.ofInt 64 (a:Int))|||(BitVec.ofInt 64 (b:Int))).toNat:Int)=_;rw[q8a,q8a,BitVec.toNat_or,BitVec.toNat_ofNat,BitVec.toNat_ofNat,mod64 ha,mod64 hb];exact qu8 (Nat.or_lt_two_pow ha hb)
theorem q9g{a b:Nat}(ha:a<2^62)(hb:b<2^62):andI .i64 (a:Int) (b:Int)=((a&&&b:Nat):Int):=by show IntKind.wrap .i64 (((BitVec.ofInt 64 (a:Int))&&&(BitVec.ofInt 64 (b:Int))).toNat:Int)=_;rw[q8a,q8a,BitVec.toNat_and,BitVec.toNat_ofNat,BitVec.toNat_ofNat,mod64 ha,mod64 hb];exact qu8 (Nat.and_lt_two_pow _ hb)
theorem qwt{a b n:Nat}(h:a<2^n):ndiff a b<2^n:=by apply Nat.lt_pow_two_of_testBit;intro i hi;rw[q53];have:a.testBit i=false:=Nat.testBit_lt_two_pow (Nat.lt_of_lt_of_le h (Nat.pow_le_pow_right (by decide) hi));simp_all
theorem qcs{a b:Nat}(ha:a<2^62)(_hb:b<2^62):qfu .i64 (a:Int) (b:Int)=((ndiff a b:Nat):Int):=by
 have key:(BitVec.ofNat 64 a&&&~~~BitVec.ofNat 64 b).toNat=ndiff a b:=by
  apply Nat.eq_of_testBit_eq;intro i;rw[q53];by_cases hi:i<64;·grind
  .have h1:a.testBit i=false:=Nat.testBit_lt_two_pow (Nat.lt_of_lt_of_le ha (Nat.pow_le_pow_right (by decide) (by omega)));grind
 show IntKind.wrap .i64 (((BitVec.ofInt 64 (a:Int))&&&~~~(BitVec.ofInt 64 (b:Int))).toNat:Int)=_;rw[q8a,q8a,key];exact qu8 (qwt ha)
theorem y76(a k:Nat)(hk:k<=64):shrI .i64 (a:Int) (k:Int)=((a>>>k:Nat):Int):=by simp only[shrI,IntKind.bits,tN,Nat.min_eq_left hk,Nat.shiftRight_eq_div_pow];grind
section
variable {α β : Type} {xs r : List α} {i : Nat} {y : α}
theorem q02(h:xs.drop i=y::r)(k:α->Option β):nth xs (i:Int) k=k y:=by
 have h1:xs[i]?=some y:=by have:=congrArg (·[0]?) h;grind
 simp[nth,h1]
theorem q01(h:xs.drop i=y::r):xs.drop (i+1)=r:=by rw[show i+1=i+1 from rfl,<-List.drop_drop,h];rfl
theorem q09(h:xs.drop i=y::r):i<xs.length:=by
 by_cases hl:i<xs.length;·omega
 .rw[List.drop_eq_nil_of_le (by omega)]at h;cases h
theorem q05(h:xs.drop i=y::r):ltB (i:Int) ((xs.length:Nat):Int)=true:=q04 (by have:=q09 h;omega)
theorem q0c(h:xs.drop i=[]):ltB (i:Int) ((xs.length:Nat):Int)=false:=q00 (by simp_all)
theorem q03(h:i<4611686018427387904):addI .i64 (i:Int) 1=((i+1:Nat):Int):=by rw[q22 (by omega) (by omega)];omega
end
theorem q0m{α β:Type}{xs:List α}{y:α}(h0:0<=n)(h:xs[n.toNat]?=some y)(k:α->Option β):nth xs n k=k y:=by simp[nth,h0,h]
theorem q2p{α β:Type}{xs:List α}{n:Nat}{y:α}(h:xs[n]?=some y)(k:α->Option β):nthN xs n k=k y:=by simp[nthN,h]
end Go.Ab
